/-
  Rules of the abstract run, plain laws, and what functions answer, for the law TopRepaired.
  Conditions: none.
-/
import Derived.Test.YtmniihkenijjpaaGreatDoorW15
import Derived.Lib.Builder
import Derived.Lib.Bytealg
import Derived.Lib.Strings
import Derived.Lib.Walk
import Derived.Shelf.Strings.Builder1
import Derived.Shelf.LaysM
import Derived.Shelf.Strconv.Itoa1
import Derived.Shelf.Strconv.Itoa2
import Derived.Lib.ItoaMem
import Derived.Lib.ItoaLen
import Derived.Lib.AppendIntMem
import Derived.WalkKit
import Derived.BigCall
import Derived.BigGuard
import Derived.Shelf.SlicesE.Clone
set_option linter.all false
namespace Go.Proofs.YtmniihkenijjpaaGreatDoor
open Go Go.RowKit Go.Sw Go.Shelf
set_option maxRecDepth 100000
set_option maxHeartbeats 16000000
theorem Ir:(Tryz.prog.info? 272).map (λi=>i.size)=some 2:=ζ
theorem Si:liesAt Tryz.prog Tryz.prog.depth 272 (2/Tryz.prog.cellsOf 272) 0 272 1=true:=ζ
theorem Gu(b:Nat)(w:World)(h0:w.cell? ⟨b,0,none⟩=some (.pointer (some ⟨b,0,none⟩))):
 Calls Tryz.prog 324 #[.pointer (some ⟨b,0,none⟩)] w λe w'=>e=.returned (.tuple #[])/\w'=w:=by
 obtain⟨j,hj,_⟩:=Option.map_eq_some_iff.1 Ir
 go_enter Tryz.func324,Tryz.ntmps324
 go_wp2
 rw[Lib.run_neq_ptr_same w _ Tryz.underlying269 hj]
 go_wp2
 go_end0
 exact⟨rfl,rfl⟩
theorem EG(b:Nat)(w:World)(h0:w.cell? ⟨b,0,none⟩=some (.pointer none))(hsh:w.shape? b=some (272,2))(hfz:w.frozen? ⟨b,0,none⟩=false):
 Calls Tryz.prog 324 #[.pointer (some ⟨b,0,none⟩)] w λe w'=>e=.returned (.tuple #[])/\w'=w.setCell ⟨b,0,none⟩ (.pointer (some ⟨b,0,none⟩)):=by
 obtain⟨j,hj,hjs⟩:=Option.map_eq_some_iff.1 Ir
 go_enter Tryz.func324,Tryz.ntmps324
 go_wp2
 rw[Lib.run_to_unsafe w ⟨b,0,none⟩ Tryz.underlying269 Tryz.underlying337 hj (by rw[hjs];decide) hsh (Nat.zero_lt_succ 1)];simp only[Result.andThen];rw[Oper.upon_value]
 go_wp2
 rw[run_callFunc_extern Tryz.func349 ζ ζ ζ (e:=Extern.AbiNoEscape.same) ζ];rw[Lib.run_noEscape];simp only[Result.andThen];rw[Oper.upon_value]
 go_wp2
 rw[Lib.run_from_unsafe w ⟨b,0,none⟩ Tryz.underlying337 Tryz.underlying269 hj hsh Si];simp only[Result.andThen];rw[Oper.upon_value]
 go_wp2
 go_end0
 exact⟨rfl,rfl⟩
theorem YB(B b:Nat)(bs:List Value)(w:World)(h:Lib.IsBuilder 272 5 B b bs w):
 Calls Tryz.prog 324 #[.pointer (some ⟨b,0,none⟩)] w λe w'=>e=.returned (.tuple #[])/\(Lib.BuilderAt 272 5 B b (.pointer (some ⟨b,0,none⟩)) bs w'/\Below B w w'):=by
 rcases h with h|h
 .refine(EG b w h.cell0 h.shape h.frozen0).mono ?_;rintro e w' ⟨rfl,rfl⟩;exact⟨rfl,h.used _,(Below.refl B w).setCell (p:=⟨b,0,none⟩) h.1 _⟩
 .refine(Gu b w h.cell0).mono ?_;rintro e w' ⟨rfl,rfl⟩;exact⟨rfl,h,Below.refl _ _⟩
theorem I5:∃i0,Tryz.prog.info? 5=some i0/\i0.zero=some (.int .u8 0)/\i0.size=1/\i0.bytes=1:=info_parts ζ
theorem uJ(w:World){b:Nat}{x y:Value}(h:w.heap[b]?=some (.cells #[x,y] 272 (0,0))):b<w.heap.size:=by
 rcases sW b w.heap.size with h'|h'
 .exact h'
 .simp[Array.getElem?_eq_none h']at h
theorem wb_(B b:Nat)(bs:List Value)(c:Int)(w:World)(h:Lib.IsBuilder 272 5 B b bs w)(hlen:bs.length+1<=1000000)(hBw:B<=w.heap.size):
 Calls Tryz.prog 287 #[.pointer (some ⟨b,0,none⟩),.int .u8 c] w λe w'=>e=.returned .nilIface/\(Lib.BuilderAt 272 5 B b (.pointer (some ⟨b,0,none⟩)) (bs++[.int .u8 c]) w'/\Below B w w'):=by
 obtain⟨i0,hi,hz0,hz1,hz2⟩:=I5
 go_enter Tryz.func287,Tryz.ntmps287
 go_wp2_with (go_at_call 324;refine(YB B b bs _ h).mono ?_)
 rintro e w1 ⟨rfl,h1,hb1⟩;obtain⟨hB,v,hbk,hown,hne⟩:=h1;have c0:w1.cell? ⟨b,0,none⟩=some (.pointer (some ⟨b,0,none⟩)):=by rw[Lib.cell_of_heap hbk];rfl
 have c1:w1.cell? ⟨b,1,none⟩=some v:=by rw[Lib.cell_of_heap hbk];rfl
 go_wp2_with (at_builtin;refine wpList_append_own _ rfl _ _ 270 rfl B 5 i0 (.int .u8 0) 1 1 Tryz.underlying270 hi hz0 hz1 hz2 rfl ψ _ _ _ rfl (hown.alloc _) ⟨w1.heap.size,0,none⟩ 1 1 [.int .u8 c] rfl rfl ?c1 ?c2 ?c3 ?c4 ?c5 ?_)
 case c1 =>
  intro j u hj
  match j,hj with
  |0,hj=>simp at hj;subst hj;simp[Addr.add]
 case c2=>intro u hu;simp at hu;subst hu;rfl
 case c3=>unfold maxLen;omega
 case c4=>omega
 case c5=>have:=hb1.size;simp;omega
 intro v' w2 hown' hgrow _;have hlt:=uJ w1 hbk
 have hb2:w2.heap[b]?=some (.cells #[.pointer (some ⟨b,0,none⟩),v] 272 (0,0)):=by
  rw[hgrow.block b κ (λe=>hne e.symm),Lib.alloc_old w1 _ b hlt];exact hbk
 have d0:w2.cell? ⟨b,0,none⟩=some (.pointer (some ⟨b,0,none⟩)):=by rw[Lib.cell_of_heap hb2];rfl
 have d1:w2.cell? ⟨b,1,none⟩=some v:=by rw[Lib.cell_of_heap hb2];rfl
 have f1:w2.frozen? ⟨b,1,none⟩=false:=Lib.frozen_of_heap hb2 1
 obtain⟨g,cap,rfl⟩:∃g cap,v'=.slice (some ⟨g,0,none⟩) (bs.length+1) cap:=by
  rcases hown'.2 with⟨_,h0⟩|⟨g,cap,cur,hv,_⟩
  .omega
  .exact⟨g,cap,hv⟩
 go_wp2
 go_ret
 refine⟨rfl, ?_, ?_⟩
 .exact Lib.BuilderAt.put (T:=272) (e:=5) hB hb2 (bs':=bs++[.int .u8 c]) (by simpa using hown') ψ
 .exact((hb1.alloc (by have:=hb1.size;omega) _).grown hgrow (by have:=hb1.size;simp;omega) (λk hk=>(hown.lt k hk).1)).setCell (p:=⟨b,1,none⟩) hB _
theorem SQ(B b:Nat)(bs:List Value)(s:ByteArray)(w:World)(h:Lib.IsBuilder 272 5 B b bs w)(hlen:bs.length+s.size<=1000000)(hBw:B<=w.heap.size):
 Calls Tryz.prog 288 #[.pointer (some ⟨b,0,none⟩),.string s] w λe w'=>e=.returned (.tuple #[.int .i64 s.size,.nilIface])/\(Lib.BuilderAt 272 5 B b (.pointer (some ⟨b,0,none⟩)) (bs++Lib.strCells s) w'/\Below B w w'):=by
 obtain⟨i0,hi,hz0,hz1,hz2⟩:=I5
 go_enter Tryz.func288,Tryz.ntmps288
 go_wp2_with (go_at_call 324;refine(YB B b bs _ h).mono ?_)
 rintro e w1 ⟨rfl,h1,hb1⟩;obtain⟨hB,v,hbk,hown,hne⟩:=h1;have c0:w1.cell? ⟨b,0,none⟩=some (.pointer (some ⟨b,0,none⟩)):=by rw[Lib.cell_of_heap hbk];rfl
 have c1:w1.cell? ⟨b,1,none⟩=some v:=by rw[Lib.cell_of_heap hbk];rfl
 go_wp2_with (at_builtin;refine Lib.wpList_append_own_string _ rfl _ _ 270 9 rfl B 5 i0 Tryz.underlying270 Tryz.underlying9 hi hz0 hz1 hz2 _ _ _ rfl hown s rfl ?c3 ?c4 ?c5 ?_)
 case c3=>unfold maxLen;omega
 case c4=>omega
 case c5=>have:=hb1.size;omega
 intro v' w2 hown' hgrow _;have hlt:=uJ w1 hbk
 have hb2:w2.heap[b]?=some (.cells #[.pointer (some ⟨b,0,none⟩),v] 272 (0,0)):=by
  rw[hgrow.block b hlt (λe=>hne e.symm)];exact hbk
 have d0:w2.cell? ⟨b,0,none⟩=some (.pointer (some ⟨b,0,none⟩)):=by rw[Lib.cell_of_heap hb2];rfl
 have d1:w2.cell? ⟨b,1,none⟩=some v:=by rw[Lib.cell_of_heap hb2];rfl
 have f1:w2.frozen? ⟨b,1,none⟩=false:=Lib.frozen_of_heap hb2 1
 obtain⟨ao,n',cap,rfl⟩:∃ao n' cap,v'=.slice ao n' cap:=by
  rcases hown'.2 with⟨hv,_⟩|⟨g,cap,cur,hv,_⟩
  .exact⟨_,_,_,hv⟩
  .exact⟨_,_,_,hv⟩
 go_wp2
 go_ret2
 refine⟨rfl, ?_, ?_⟩
 .exact Lib.BuilderAt.put (T:=272) (e:=5) hB hb2 (bs':=bs++Lib.strCells s) (by simpa[Lib.strCells_length]using hown') ψ
 .exact(hb1.grown hgrow (by have:=hb1.size;omega) (λk hk=>(hown.lt k hk).1)).setCell (p:=⟨b,1,none⟩) hB _
def vw:Ren where
 f:=λx=>match x with|169=>290|n=>n
 t:=λx=>match x with|70=>269|9=>9|0=>0|72=>272|37=>270|127=>315|3=>3|5=>5|n=>n
 g:=λx=>x
theorem zK:Lays.n169 Tryz.prog vw where
 mixed:=ζ
 f169:=qh Tryz.func290 (congrArg some (Eq.refl (Body.n169 vw)))
 t0:=Tryz.underlying0
 a0:=Tryz.isAgg0
 z0:=Tryz.sizeOf0
 v0:=Tryz.zeroValue0
 t3:=Tryz.underlying3
 a3:=Tryz.isAgg3
 z3:=Tryz.sizeOf3
 v3:=Tryz.zeroValue3
 t9:=Tryz.underlying9
 a9:=Tryz.isAgg9
 z9:=Tryz.sizeOf9
 v9:=Tryz.zeroValue9
 t37:=Tryz.underlying270
 a37:=Tryz.isAgg270
 z37:=Tryz.sizeOf270
 v37:=Tryz.zeroValue270
 t70:=Tryz.underlying269
 a70:=Tryz.isAgg269
 z70:=Tryz.sizeOf269
 v70:=Tryz.zeroValue269
 t72:=Tryz.underlying272
 a72:=Tryz.isAgg272
 z72:=Tryz.sizeOf272
 v72:=Tryz.zeroValue272
 t127:=Tryz.underlying315
 a127:=Tryz.isAgg315
 z127:=Tryz.sizeOf315
 v127:=Tryz.zeroValue315
theorem Cb:Builder.Extra Tryz.prog vw where
 sizeBuilder:=ζ
 liesBuilder:=ζ
 t5:=Tryz.underlying5
 a5:=Tryz.isAgg5
 z5:=Tryz.sizeOf5
 v5:=Tryz.zeroValue5
 infoByte:=ζ
 cellsByte:=ζ
 sizeByte:=ζ
 neB5:=ψ
theorem kL(w:World)(o:Obj):(w.alloc o).heap.size=w.heap.size+1:=by simp[World.alloc,-World.alloc_eq]
theorem Ea(w:World)(o:Obj):(w.alloc o).heap[w.heap.size]?=some o:=by simp[World.alloc,-World.alloc_eq]
theorem pz{w w1:World}{x y:Array Value}{s t:TypeId}(hb:Below ((w.alloc (.cells x s)).alloc (.cells y t)).heap.size ((w.alloc (.cells x s)).alloc (.cells y t)) w1):
 w1.heap[w.heap.size]?=some (.cells x s (0,0))/\w1.heap[w.heap.size+1]?=some (.cells y t (0,0))/\Below w.heap.size w w1/\w.heap.size+2<=w1.heap.size:=by
 have e1:=kL w (.cells x s);have e2:=kL (w.alloc (.cells x s)) (.cells y t);refine⟨?_, ?_,⟨hb.os,hb.tape,hb.output, ?_,λk hk=>?_⟩, ?_⟩
 .rw[hb.block _ ω,Lib.alloc_old _ _ _ ω,Ea]
 .rw[hb.block _ ω,<-e1,Ea]
 .have:=hb.size;omega
 .rw[hb.block k ω,Lib.alloc_old _ _ _ ω,Lib.alloc_old _ _ _ hk]
 .have:=hb.size;omega
theorem oQ{w2:World}{g:Nat}{x y:Value}{t:TypeId}(h:w2.heap[g]?=some (.cells #[x,y] t (0,0))):w2.cell? ⟨g,1,none⟩=some y:=by
 rw[Lib.cell_of_heap h];rfl
theorem yH{w:World}{b:Nat}{o:Obj}(h:w.heap[b]?=some o):b<w.heap.size:=by
 rcases sW b w.heap.size with h'|h'
 .exact h'
 .simp[Array.getElem?_eq_none h']at h
theorem iK{w w':World}{T e:TypeId}{B b:Nat}{p:Value}{bs:List Value}(h:Lib.BuilderAt T e B b p bs w)(hb:Below w.heap.size w w'):Lib.BuilderAt T e B b p bs w':=by
 obtain⟨h1,v,h2,h3,h4⟩:=h;refine⟨h1,v,by rw[hb.block b (yH h2)];exact h2,⟨h3.1, ?_⟩,h4⟩;rcases h3.2 with h|⟨g,cap,cur,k1,k2,k3,k4⟩
 .exact .inl h
 .exact .inr ⟨g,cap,cur,k1,k2,by rw[hb.block g (yH k3)];exact k3,k4⟩
theorem Fv(L:Nat)(x:Nat->Nat)(D:Nat->List UInt8)(A:Addr)(cap:Nat)(w:World)(hW:Wld.ok Tryz.prog w)(hA:A.block<w.heap.size)(hc:∀i,i<L->w.cell? (A.add i)=some (.int .u32 ((x i:Nat):Int)))
 (hn:0<L) (hl:L<=100000) (hx:∀i,x i<1000000000) (hD:D (L-1)=Lib.decDigits (x (L-1))) (hs:∀i,i+1<L->D (i+1)++List.replicate (9-Lib.nDigits (x i)) 48++Lib.decDigits (x i)=D i) (hdl:∀i,(D i).length<=9*L) (h0:0<(D 0).length) :
 Calls Tryz.prog 255 #[.agg #[.bool false,.slice (some A) L cap]] w λe w'=>e=.returned (.string ⟨([]++D 0).toArray⟩)/\Below w.heap.size w w':=by
 have hln:¬((L:Nat):Int)=0:=ω
 have w1:wrap64 ((L:Int)-1)=((L-1:Nat):Int):=by unfold wrap64;omega
 have hci:∀(w1:World) (i:Nat),i<L->Below w.heap.size w w1->w1.cell? (A.add i)=some (.int .u32 ((x i:Nat):Int)):=λw1 i hi h=>by rw[h.cell (by rw[block_add];exact hA)];exact hc i hi
 have hbl:∀i,i+1<L->bv ([]++D (i+1))++Lib.strCells ⟨(List.replicate (9-Lib.nDigits (x i)) (48:UInt8)).toArray⟩++Lib.strCells (kN (x i))=bv ([]++D i):=λi hi=>by
  rw[<-hs i hi,Jp,show Lib.strCells (kN (x i))=bv (Lib.decDigits (x i))from rfl,<-pG,<-pG,jf,jf,jf]
 have hbd:bv ([]++D (L-1))=bv []++Lib.strCells (kN (x (L-1))):=by rw[hD,pG];rfl
 have hdl:∀i,(bv ([]++D i)).length<=9*L+1:=λi=>by have:=hdl i;rw[G7,dY];simp only[dK,dZ];omega
 have hb0:bv ([]++D 0)=([]++D 0:List UInt8).map λb:UInt8=>Value.int .u8 (b.toNat:Int):=rfl
 have hne:[]++D 0≠[]:=by intro e;have:=congrArg List.length e;rw[dY,dZ]at this;omega
 clear hs hD hc;have c1:=hci;have hxt:=hx (L-1);have hdt:=lD (x (L-1));have hgt:=qH hxt;have ctop:=λw1 h=>hci w1 (L-1) ω h
 generalize hxg:x (L-1)=xt at hxt hdt hgt ctop hbd;clear c1
 go_enter Tryz.func255,Tryz.ntmps255
 have e1:=kL w (.cells #[.bool false,.slice (some A) L cap] 28);obtain⟨r1,r2,hW0,r3⟩:=pz (Below.refl _ ((w.alloc (.cells #[.bool false,.slice (some A) L cap] 28)).alloc (.cells #[.pointer none,.slice none 0 0] 272)));have c1:=ctop _ hW0;have hk0:Wld.ok Tryz.prog ((w.alloc (.cells #[.bool false,.slice (some A) L cap] 28)).alloc (.cells #[.pointer none,.slice none 0 0] 272)):=Wld.keep hW hW0;clear hW0 r1 r2 r3
 go_wp2_with (go_at_call 289;refine(WC (m:=xt) ω _ hk0).mono ?_)
 rintro e w1 ⟨rfl,hb1⟩;obtain⟨q0,q1,hW1,hsz⟩:=pz hb1;have hB:Lib.IsBuilder 272 5 (w.heap.size+1) (w.heap.size+1) [] w1:=.inl ⟨gW _,.slice none 0 0,q1,World.ownsRow_nil _ _ _ _,by simp[Value.ownBlock]⟩;clear hb1 c1 hk0
 go_wp2_with (go_at_call 288;refine(SQ _ _ _ (kN xt) _ hB (by simp only[dZ];omega) ω).mono ?_)
 rintro e w2 ⟨rfl,hB2,hb2⟩;have q2:w2.heap[w.heap.size]?=some (.cells #[.bool false,.slice (some A) L cap] 28 (0,0)):=by rw[hb2.block _ ω];exact q0
 have hW3:Below w.heap.size w w2:=hW1.trans (hb2.mono ω);have hs2:w.heap.size+2<=w2.heap.size:=by have:=hb2.size;omega
 clear hB q0 q1 hW1 hsz hb2 ctop;have w2e:wrap64 ((L:Int)-2)=((L-1:Nat):Int)-1:=by unfold wrap64;omega
 rw[show([]:List Value)++Lib.strCells (kN xt)=bv ([]++D (L-1))from hbd.symm]at hB2;clear hbd hxg hxt hdt hgt
 go_wp2
 go_loopg [5] L (λkk s5 wr=>∃i:Nat,i+1<=L/\i<=kk/\s5=.int .i64 ((i:Int)-1)/\Lib.BuilderAt 272 5 (w.heap.size+1) (w.heap.size+1) (.pointer (some ⟨w.heap.size+1,0,none⟩)) (bv ([]++D i)) wr /\
  wr.heap[w.heap.size]?=some (.cells #[.bool false,.slice (some A) L cap] 28 (0,0))/\Below w.heap.size w wr/\w.heap.size+2<=wr.heap.size)
 case atStart =>
  refine⟨L-1,ω,ω,by congr 1;omega, ?_,q2,hW3,hs2⟩;exact hB2
 case round =>
  obtain⟨i,hi1,hi2,rfl,hBi,qi,hWi,hsi⟩:=hrel;clear hB2 q2 hW3 hs2 w2e w1;have ci:=oQ qi;cases i with
  |zero =>
   clear hci hbl hdl hx;rw[hb0]at hBi
   go_wp2_with (go_at_call 290;refine(Any.Builder_String zK Cb _ _ ([]++D 0) _ (.inr hBi) hne).mono ?_)
   rintro e w3 ⟨rfl,hb3⟩
   go_wp2
   go_ret
   exact⟨rfl,hWi.trans (hb3.mono ω)⟩
  |succ i =>
   have cy:=hci wr i ω hWi;have hlb:=hx i;have hbl:=hbl i ω;have hdl1:=hdl (i+1);have hdl0:=hdl i;have hpos:((i+1:Nat):Int)-1>=0:=ω
   have hz:((i+1:Nat):Int)-1=(i:Int):=ω
   have hk1:Wld.ok Tryz.prog wr:=Wld.keep hW hWi;have hsy:=lD (x i);have hdy:=qH hlb;clear hci hdl hb0 hne h0 hx;generalize x i=y at cy hlb hbl hsy hdy;obtain⟨k,hk⟩:∃k,k+Lib.nDigits y=9:=⟨9-Lib.nDigits y,ω⟩
   rw[show 9-Lib.nDigits y=k by omega]at hbl;have e9:(9:Int)-(Lib.nDigits y:Int)=(k:Int):=ω
   have wi:wrap64 ((i:Int)-1)=(i:Int)-1:=by unfold wrap64;omega
   rw[hz]at hpos ⊢;clear hz
   go_wp2_with (go_at_call 289;refine(WC (m:=y) ω _ hk1).mono ?_)
   rintro e wa ⟨rfl,hba⟩;have hBa:=iK hBi hba;have hsa:w.heap.size+2<=wa.heap.size:=by have:=hba.size;omega
   have qa:wa.heap[w.heap.size]?=some (.cells #[.bool false,.slice (some A) L cap] 28 (0,0)):=by rw[hba.block _ ω];exact qi
   have hWa:Below w.heap.size w wa:=hWi.trans (hba.mono ω);clear hBi qi ci cy hWi hsi hba hk1
   go_wp2_with (go_at_call 256;refine(VF (k:=k) ω _).mono ?_)
   rintro e wb_ ⟨rfl,hbb⟩;have hBb:=iK hBa hbb;have hsb:w.heap.size+2<=wb_.heap.size:=by have:=hbb.size;omega
   have qb:wb_.heap[w.heap.size]?=some (.cells #[.bool false,.slice (some A) L cap] 28 (0,0)):=by rw[hbb.block _ ω];exact qa
   have hWb:Below w.heap.size w wb_:=hWa.trans (hbb.mono ω);clear hBa qa hWa hsa hbb;have hrl:(ByteArray.mk (List.replicate k (48:UInt8)).toArray).size=k:=by show(List.replicate k (48:UInt8)).toArray.size=_;rw[Iy,xC]
   generalize ByteArray.mk (List.replicate k (48:UInt8)).toArray=rs at hrl hbl ⊢
   go_wp2_with (go_at_call 288;refine(SQ _ _ _ rs _ (.inr hBb) ω ω).mono ?_)
   rintro e wc ⟨rfl,hBc,hbc⟩;have hsc:w.heap.size+2<=wc.heap.size:=by have:=hbc.size;omega
   have qc:wc.heap[w.heap.size]?=some (.cells #[.bool false,.slice (some A) L cap] 28 (0,0)):=by rw[hbc.block _ ω];exact qb
   have hWc:Below w.heap.size w wc:=hWb.trans (hbc.mono ω);clear hBb qb hWb hsb hbc
   go_wp2_with (go_at_call 288;refine(SQ _ _ _ (kN y) _ (.inr hBc) (by rw[dY,Lib.strCells_length];omega) ω).mono ?_)
   rintro e wd ⟨rfl,hBd,hbd⟩;rw[hbl]at hBd;have hsd:w.heap.size+2<=wd.heap.size:=by have:=hbd.size;omega
   have qd:wd.heap[w.heap.size]?=some (.cells #[.bool false,.slice (some A) L cap] 28 (0,0)):=by rw[hbd.block _ ω];exact qc
   have hWd:Below w.heap.size w wd:=hWc.trans (hbd.mono ω);clear hBc qc hWc hsc hbd
   go_wp2
   go_roundg i
   case measure=>omega
   case rel=>exact⟨i,ω,gW _,rfl,hBd,qd,hWd,hsd⟩
theorem Es(L:Nat)(x:Nat->Nat)(D:Nat->List UInt8)(A:Addr)(cap:Nat)(w:World)(hW:Wld.ok Tryz.prog w)(hA:A.block<w.heap.size)(hc:∀i,i<L->w.cell? (A.add i)=some (.int .u32 ((x i:Nat):Int)))
 (hn:0<L) (hl:L<=100000) (hx:∀i,x i<1000000000) (hD:D (L-1)=Lib.decDigits (x (L-1))) (hs:∀i,i+1<L->D (i+1)++List.replicate (9-Lib.nDigits (x i)) 48++Lib.decDigits (x i)=D i) (hdl:∀i,(D i).length<=9*L) (h0:0<(D 0).length) :
 Calls Tryz.prog 255 #[.agg #[.bool true,.slice (some A) L cap]] w λe w'=>e=.returned (.string ⟨([45]++D 0).toArray⟩)/\Below w.heap.size w w':=by
 have hln:¬((L:Nat):Int)=0:=ω
 have w1:wrap64 ((L:Int)-1)=((L-1:Nat):Int):=by unfold wrap64;omega
 have hci:∀(w1:World) (i:Nat),i<L->Below w.heap.size w w1->w1.cell? (A.add i)=some (.int .u32 ((x i:Nat):Int)):=λw1 i hi h=>by rw[h.cell (by rw[block_add];exact hA)];exact hc i hi
 have hbl:∀i,i+1<L->bv ([45]++D (i+1))++Lib.strCells ⟨(List.replicate (9-Lib.nDigits (x i)) (48:UInt8)).toArray⟩++Lib.strCells (kN (x i))=bv ([45]++D i):=λi hi=>by
  rw[<-hs i hi,Jp,show Lib.strCells (kN (x i))=bv (Lib.decDigits (x i))from rfl,<-pG,<-pG,jf,jf,jf]
 have hbd:bv ([45]++D (L-1))=bv [45]++Lib.strCells (kN (x (L-1))):=by rw[hD,pG];rfl
 have hdl:∀i,(bv ([45]++D i)).length<=9*L+1:=λi=>by have:=hdl i;rw[G7,dY];simp only[dK,dZ];omega
 have hb0:bv ([45]++D 0)=([45]++D 0:List UInt8).map λb:UInt8=>Value.int .u8 (b.toNat:Int):=rfl
 have hne:[45]++D 0≠[]:=by intro e;have:=congrArg List.length e;rw[dY,dZ]at this;omega
 clear hs hD hc;have c1:=hci;have hxt:=hx (L-1);have hdt:=lD (x (L-1));have hgt:=qH hxt;have ctop:=λw1 h=>hci w1 (L-1) ω h
 generalize hxg:x (L-1)=xt at hxt hdt hgt ctop hbd;clear c1
 go_enter Tryz.func255,Tryz.ntmps255
 have e1:=kL w (.cells #[.bool true,.slice (some A) L cap] 28);obtain⟨q0,q1,hW0,hsz0⟩:=pz (Below.refl _ ((w.alloc (.cells #[.bool true,.slice (some A) L cap] 28)).alloc (.cells #[.pointer none,.slice none 0 0] 272)));have hB:Lib.IsBuilder 272 5 (w.heap.size+1) (w.heap.size+1) [] ((w.alloc (.cells #[.bool true,.slice (some A) L cap] 28)).alloc (.cells #[.pointer none,.slice none 0 0] 272)):=.inl ⟨gW _,.slice none 0 0,q1,World.ownsRow_nil _ _ _ _,by simp[Value.ownBlock]⟩
 go_wp2_with (go_at_call 287;refine(wb_ _ _ _ 45 _ hB ψ ω).mono ?_)
 rintro e w0 ⟨rfl,hB0,hb0'⟩;have hW1:Below w.heap.size w w0:=hW0.trans (hb0'.mono ω);have q5:w0.heap[w.heap.size]?=some (.cells #[.bool true,.slice (some A) L cap] 28 (0,0)):=by rw[hb0'.block _ ω];exact q0
 have c5:=oQ q5;have c6:=ctop w0 hW1;clear hB q0 q1 hW0;have hs0:w.heap.size+2<=w0.heap.size:=by have:=hb0'.size;omega
 clear hb0';have hk0:Wld.ok Tryz.prog w0:=Wld.keep hW hW1
 go_wp2_with (go_at_call 289;refine(WC (m:=xt) ω _ hk0).mono ?_)
 rintro e w1 ⟨rfl,hb1⟩;have hW2:Below w.heap.size w w1:=hW1.trans (hb1.mono ω);have hB1:=iK hB0 hb1;have q6:w1.heap[w.heap.size]?=some (.cells #[.bool true,.slice (some A) L cap] 28 (0,0)):=by rw[hb1.block _ ω];exact q5
 have hs1:w.heap.size+2<=w1.heap.size:=by have:=hb1.size;omega
 clear hb1 c5 c6 hk0
 go_wp2_with (go_at_call 288;refine(SQ _ _ _ (kN xt) _ (.inr hB1) (by simp only[dY,dZ,dK];omega) ω).mono ?_)
 rintro e w2 ⟨rfl,hB2,hb2⟩;have q2:w2.heap[w.heap.size]?=some (.cells #[.bool true,.slice (some A) L cap] 28 (0,0)):=by rw[hb2.block _ ω];exact q6
 have hW3:Below w.heap.size w w2:=hW2.trans (hb2.mono ω);have hs2:w.heap.size+2<=w2.heap.size:=by have:=hb2.size;omega
 clear hB1 hB0 q5 q6 hW1 hW2 hs0 hs1 hb2 hsz0 ctop;have w2e:wrap64 ((L:Int)-2)=((L-1:Nat):Int)-1:=by unfold wrap64;omega
 rw[show([]:List Value)++[.int .u8 45]++Lib.strCells (kN xt)=bv ([45]++D (L-1))from hbd.symm]at hB2;clear hbd hxg hxt hdt hgt
 go_wp2
 go_loopg [5] L (λkk s5 wr=>∃i:Nat,i+1<=L/\i<=kk/\s5=.int .i64 ((i:Int)-1)/\Lib.BuilderAt 272 5 (w.heap.size+1) (w.heap.size+1) (.pointer (some ⟨w.heap.size+1,0,none⟩)) (bv ([45]++D i)) wr /\
  wr.heap[w.heap.size]?=some (.cells #[.bool true,.slice (some A) L cap] 28 (0,0))/\Below w.heap.size w wr/\w.heap.size+2<=wr.heap.size)
 case atStart =>
  refine⟨L-1,ω,ω,by congr 1;omega, ?_,q2,hW3,hs2⟩;exact hB2
 case round =>
  obtain⟨i,hi1,hi2,rfl,hBi,qi,hWi,hsi⟩:=hrel;clear hB2 q2 hW3 hs2 w2e w1;have ci:=oQ qi;cases i with
  |zero =>
   clear hci hbl hdl hx;rw[hb0]at hBi
   go_wp2_with (go_at_call 290;refine(Any.Builder_String zK Cb _ _ ([45]++D 0) _ (.inr hBi) hne).mono ?_)
   rintro e w3 ⟨rfl,hb3⟩
   go_wp2
   go_ret
   exact⟨rfl,hWi.trans (hb3.mono ω)⟩
  |succ i =>
   have cy:=hci wr i ω hWi;have hlb:=hx i;have hbl:=hbl i ω;have hdl1:=hdl (i+1);have hdl0:=hdl i;have hpos:((i+1:Nat):Int)-1>=0:=ω
   have hz:((i+1:Nat):Int)-1=(i:Int):=ω
   have hk1:Wld.ok Tryz.prog wr:=Wld.keep hW hWi;have hsy:=lD (x i);have hdy:=qH hlb;clear hci hdl hb0 hne h0 hx;generalize x i=y at cy hlb hbl hsy hdy;obtain⟨k,hk⟩:∃k,k+Lib.nDigits y=9:=⟨9-Lib.nDigits y,ω⟩
   rw[show 9-Lib.nDigits y=k by omega]at hbl;have e9:(9:Int)-(Lib.nDigits y:Int)=(k:Int):=ω
   have wi:wrap64 ((i:Int)-1)=(i:Int)-1:=by unfold wrap64;omega
   rw[hz]at hpos ⊢;clear hz
   go_wp2_with (go_at_call 289;refine(WC (m:=y) ω _ hk1).mono ?_)
   rintro e wa ⟨rfl,hba⟩;have hBa:=iK hBi hba;have hsa:w.heap.size+2<=wa.heap.size:=by have:=hba.size;omega
   have qa:wa.heap[w.heap.size]?=some (.cells #[.bool true,.slice (some A) L cap] 28 (0,0)):=by rw[hba.block _ ω];exact qi
   have hWa:Below w.heap.size w wa:=hWi.trans (hba.mono ω);clear hBi qi ci cy hWi hsi hba hk1
   go_wp2_with (go_at_call 256;refine(VF (k:=k) ω _).mono ?_)
   rintro e wb_ ⟨rfl,hbb⟩;have hBb:=iK hBa hbb;have hsb:w.heap.size+2<=wb_.heap.size:=by have:=hbb.size;omega
   have qb:wb_.heap[w.heap.size]?=some (.cells #[.bool true,.slice (some A) L cap] 28 (0,0)):=by rw[hbb.block _ ω];exact qa
   have hWb:Below w.heap.size w wb_:=hWa.trans (hbb.mono ω);clear hBa qa hWa hsa hbb;have hrl:(ByteArray.mk (List.replicate k (48:UInt8)).toArray).size=k:=by show(List.replicate k (48:UInt8)).toArray.size=_;rw[Iy,xC]
   generalize ByteArray.mk (List.replicate k (48:UInt8)).toArray=rs at hrl hbl ⊢
   go_wp2_with (go_at_call 288;refine(SQ _ _ _ rs _ (.inr hBb) ω ω).mono ?_)
   rintro e wc ⟨rfl,hBc,hbc⟩;have hsc:w.heap.size+2<=wc.heap.size:=by have:=hbc.size;omega
   have qc:wc.heap[w.heap.size]?=some (.cells #[.bool true,.slice (some A) L cap] 28 (0,0)):=by rw[hbc.block _ ω];exact qb
   have hWc:Below w.heap.size w wc:=hWb.trans (hbc.mono ω);clear hBb qb hWb hsb hbc
   go_wp2_with (go_at_call 288;refine(SQ _ _ _ (kN y) _ (.inr hBc) (by rw[dY,Lib.strCells_length];omega) ω).mono ?_)
   rintro e wd ⟨rfl,hBd,hbd⟩;rw[hbl]at hBd;have hsd:w.heap.size+2<=wd.heap.size:=by have:=hbd.size;omega
   have qd:wd.heap[w.heap.size]?=some (.cells #[.bool true,.slice (some A) L cap] 28 (0,0)):=by rw[hbd.block _ ω];exact qc
   have hWd:Below w.heap.size w wd:=hWc.trans (hbd.mono ω);clear hBc qc hWc hsc hbd
   go_wp2
   go_roundg i
   case measure=>omega
   case rel=>exact⟨i,ω,gW _,rfl,hBd,qd,hWd,hsd⟩
theorem Uo(A:Option Addr)(cap:Nat)(b:Bool)(w:World):Calls Tryz.prog 255 #[.agg #[.bool b,.slice A 0 cap]] w λe w'=>e=.returned (.string ⟨#[48]⟩)/\Below w.heap.size w w':=by
 go_enter Tryz.func255,Tryz.ntmps255
 go_wp2
 go_ret
 refine⟨rfl,⟨rfl,rfl,rfl,by rw[kL];omega,λk hk=>Lib.alloc_old _ _ _ hk⟩⟩
theorem NC{n:Int}(hp:sz n<=100000){w:World}{X:List Nat}{u:Value}(hW:Wld.ok Tryz.prog w)(hu:IntV w X u n):Calls Tryz.prog 255 #[u] w λe w'=>e=.returned (.string (lJ n))/\Below w.heap.size w w':=by
 obtain⟨_,rfl,A,c,rfl,hu⟩:=hu
 by_cases h0:n=0
 .subst h0;rw[show(0:Int).natAbs=0 from rfl,bZ];have e:lJ 0=⟨#[48]⟩:=by unfold lJ;rw[show(0:Int).natAbs=0 from rfl,lH ψ];rfl
  rw[e];exact Uo A c _ w
 .have hn:0<(lim n.natAbs).length:=by rw[fZ ω];simp
  obtain⟨ad,rfl,h1,_,h3⟩:=hu.cl (by intro e;have:=congrArg List.length e;simp[us]at this;rw[this]at hn;exact absurd hn ψ)
  have hc:∀i,i<(lim n.natAbs).length->w.cell? (ad.add i)=some (.int .u32 ((n.natAbs/1000000000^i%1000000000:Nat):Int)):=λi hi=>h3 i _ (by
   show((lim n.natAbs).map _)[i]?=_
   rw[rE,Qr hi];rfl)
  have hD0:Lib.decDigits (n.natAbs/1000000000^0)=Lib.decDigits n.natAbs:=by rw[Nat.pow_zero,Nat.div_one]
  have r0:=Fv (lim n.natAbs).length (λi=>n.natAbs/1000000000^i%1000000000) (λi=>Lib.decDigits (n.natAbs/1000000000^i)) ad c w hW h1 hc hn hp (λi=>oO _ ψ) (by rw[yL hn]) (λi hi=>(yI hi).symm) (λi=>xP hn) (BU _);have r1:=Es (lim n.natAbs).length (λi=>n.natAbs/1000000000^i%1000000000) (λi=>Lib.decDigits (n.natAbs/1000000000^i)) ad c w hW h1 hc hn hp (λi=>oO _ ψ) (by rw[yL hn]) (λi hi=>(yI hi).symm) (λi=>xP hn) (BU _);rw[hD0]at r0 r1;unfold lJ
  by_cases hz:n<0
  .rw[if_pos hz,decide_eq_true hz];exact r1
  .rw[if_neg hz,decide_eq_false hz];exact r0
instance Zj(n:Int):DenI Tryz.prog 255 [Z n] (sz n<=100000) (.c (.v (.string (lJ n)))):=⟨λhp=>by
 refine Den.of ⟨ζ,λw X vs hW hX hl hr=>?_⟩ rfl
 match vs,hl with
 |[u],_ =>
 have hu:=hr 0 u _ rfl rfl;refine Calls.mono (NC hp hW hu.int_) ?_;rintro e w' ⟨rfl,hb⟩
 exact⟨_,rfl,(RepR.d (.c (.v _ rfl))).f,hb⟩⟩
end Go.Proofs.YtmniihkenijjpaaGreatDoor
namespace Go.Proofs.YtmniihkenijjpaaGreatDoor
open Go Go.RowKit Go.Sw
set_option maxRecDepth 100000
set_option maxHeartbeats 16000000
set_option synthInstance.maxSize 4000
set_option synthInstance.maxHeartbeats 400000
end Go.Proofs.YtmniihkenijjpaaGreatDoor
namespace Go.Proofs.YtmniihkenijjpaaGreatDoor
open Go Go.RowKit Go.Sw Go.Shelf
set_option maxRecDepth 100000
set_option maxHeartbeats 16000000
set_option synthInstance.maxSize 4000
set_option synthInstance.maxHeartbeats 400000
instance U6{f:FuncId}{xs:List AV}{pre c:Prop}{r s:AV}[h : @DenC Tryz.prog GH f xs pre c r s]:@DenC Tryz.prog rW f xs pre c r s:=⟨λhp=>⟨λhc=>ab9 GH rW (λ_ _=>trivial) ((h.den hp).1 hc),λhc=>ab9 GH rW (λ_ _=>trivial) ((h.den hp).2 hc)⟩⟩
end Go.Proofs.YtmniihkenijjpaaGreatDoor
namespace Go.Proofs.YtmniihkenijjpaaGreatDoor
open Go Go.RowKit Go.Sw
set_option maxRecDepth 100000
set_option maxHeartbeats 16000000
set_option synthInstance.maxSize 4000
set_option synthInstance.maxHeartbeats 400000
instance aae(a b c d:Rat):DenI Tryz.prog 93 [Q2 a b,Q2 c d] (rz a<=1000/\rz b<=1000/\rz c<=1000/\rz d<=1000) (.bool (decide (a=c) && decide (b=d))):=⟨λhp=>by
 have i_a:RzB a 1000:=⟨hp.1⟩
 have i_b:RzB b 1000:=⟨hp.2.1⟩
 have i_c:RzB c 1000:=⟨hp.2.2.1⟩
 have i_d:RzB d 1000:=⟨hp.2.2.2⟩
 all_goals refine aaP (τ:=tab) fA aP Tryz.func93 rfl ζ ζ ζ ?_
 all_goals(repeat'((try(conv=>whnf));first
  |refine y5 ?_ ?_|(with_reducible first|refine aam ?_|refine aao ?_|refine aah (λ_=>?_) (λ_=>?_))|apply zaq))
 all_goals(try apply zar)
 all_goals(try simp only[dO]at *)
 all_goals first
  |(simp only[Ul,TY,mkA,mkB,ZI,WO,Z5, *,true_or,or_true,if_true,if_false,or_self,and_self,and_true,true_and,and_false,false_and,not_true,not_false_iff,DF,decide_true,decide_false,Bool.or_true,Bool.true_or,Bool.or_false,KA];rfl)|exact zau⟩
instance YK(a b c d:Rat):DenI Tryz.prog 123 [Q2 a b,Q2 c d] (rz a<=1000/\rz b<=1000/\rz c<=1000/\rz d<=1000) (R (abh (a,b) (c,d))):=⟨λhp=>by
 have i_a:RzB a 1000:=⟨hp.1⟩
 have i_b:RzB b 1000:=⟨hp.2.1⟩
 have i_c:RzB c 1000:=⟨hp.2.2.1⟩
 have i_d:RzB d 1000:=⟨hp.2.2.2⟩
 all_goals refine aaP (τ:=tab) fA aP Tryz.func123 rfl ζ ζ ζ ?_
 all_goals(repeat'((try(conv=>whnf));first
  |refine y5 ?_ ?_|refine zas ζ ?_|apply zaq))
 all_goals(try apply zar)
 all_goals first
  |rfl|exact zau⟩
def wZ:Tab:=(133,.row 5 [(0,1,false),(1,4,true)] [.v (.map none),.v (.bool false),.sl 1 [],.v (.bool false),.sl 1 []])::tabs
theorem gX:aaH Tryz.prog wZ=true:=ζ
theorem Az{a b c d:Rat}(ha:rz a<=12)(hb:rz b<=12)(hc:rz c<=12)(hd:rz d<=12):rz (abh (a,b) (c,d))<=10000000:=by
 have i1:RzB a 12:=⟨ha⟩
 have i2:RzB b 12:=⟨hb⟩
 have i3:RzB c 12:=⟨hc⟩
 have i4:RzB d 12:=⟨hd⟩
 show rz ((a-c)*(a-c)+(b-d)*(b-d))<=10000000;exact oN ω
theorem Uy(sq:Rat)(sp:aaI)(n:Nat)(s:ByteArray)(v:P2)(hs:s.size<=1000)(ha:rz v.1<=12)(hb0:rz v.2<=12)(hq:rz sq<=1000)(hn:n<=1000000)(hsp:∀p∈aan sp s,rz p.1<=12/\rz p.2<=12)(hll:(aan sp s).length<=1000000):
 aiK Tryz.prog 92 (aeY Tryz.prog 9 45 8 (jst sq sp n)) [.c (.v (.string s)),.agg (aas v)] (aeY Tryz.prog 9 45 8 (jst sq (aay sq sp s v).1 (n+1))) (.agg (aas (aay sq sp s v).2)):=by
 refine⟨ζ, ?_⟩;intro w X g T us vs more mo hW hX hg hmore hnd hgc hmap hrep hvl hr;obtain⟨g0,es,ck⟩:=mo;obtain⟨us',rfl,hsq,hF,hes,val,og,hval,hsl,hinj⟩:=hrep;simp only at hmap hF hes hval
 match vs,hvl with
 |[u1,u2],_ =>
 have h1:=hr 0 u1 _ rfl rfl;have h2:=hr 1 u2 _ rfl rfl;obtain rfl:=h1.v
 obtain⟨us2,rfl,hv2⟩:∃us2:List Value,u2=.agg us2.toArray/\RepL w X us2 (aas v):=by
  cases h2 with
  |agg h=>exact⟨_,rfl,h⟩
 have hl2:us2.length=8:=hv2.len
 haveI:WOk Tryz.prog w:=⟨hW⟩
 obtain⟨X1,hX1⟩:∃X1:List Nat,∀x∈X1,x∈X/\x≠g/\x ∉ bl more:=⟨X.filter λx=>!(decide (x=g)) && !(decide (x∈bl more)),λx hx=>by
  obtain⟨q1,q2⟩:=uP.1 hx;simp only[bG,qJ,decide_eq_false_iff_not]at q2
  exact⟨q1,q2.1,q2.2⟩⟩
 have hE1:Ext w X w X1:=Ext.drop λx hx=>(hX1 x hx).1
 have hptr:RepD w X1 (.pointer (some ⟨g,0,none⟩)) (.c (.p (.v (.map (some g0))::aeu sq))):=by
  have hcl:=Cl.of_block (X:=X1) hgc (λhx=>(hX1 g hx).2.1 rfl) (Value.map (some g0)::us').length;rw[KC,AQ]at hcl;exact .c (afT hcl (.cons (.v _ rfl) (hsq.ext hE1)))
 generalize hL:aan sp s=L at hsp hll;have hfs:(jst sq sp n).f s=L.map aas:=by show(aan sp s).map aas=_;rw[hL]
 have hslot:=hsl s;rw[hfs]at hslot;have hlay:RepD w X1 (val s) (.c (.sl 8 (L.map aas))):=.c (hslot.data (λq hq=>(hmore q hq).2.2) (λx hx=>⟨(hX1 x hx).1,(hX1 x hx).2.2⟩));have hg0:g0<w.heap.size:=lt_of_heap hmap;have hgl:g<w.heap.size:=lt_of_heap hgc;have i1:RzB v.1 12:=⟨ha⟩
 have i2:RzB v.2 12:=⟨hb0⟩
 have hgd:∀i,rz (L.getD i P0).1<=12/\rz (L.getD i P0).2<=12:=λi=>by
  by_cases hi:i<L.length
  .have:L.getD i P0=L[i]:=by simp[jH,hi]
   rw[this];exact hsp _ (tq hi)
  .have:L.getD i P0=P0:=by simp[jH,Nat.le_of_not_lt hi]
   rw[this];decide +kernel
 have i3:RzB sq 1000:=⟨hq⟩
 refine enter (vs:=[_,_,_]) Tryz.func92 rfl rfl rfl λa hFr=>?_
 have hc:=adq (N:=68) (w:=w) (X:=X1) (xs:=[.c (.p (.v (.map (some g0))::aeu sq)),.c (.v (.string s)),.agg (aas v)]) (vs:=[.pointer (some ⟨g,0,none⟩),.string s,.agg us2.toArray]) (a:=a) (λm hm=>hX m (hX1 m hm).1) rfl (λi u y hu hv=>by
  match i,hu,hv with
  |0,hu,hv=>cases hu;cases hv;exact hptr
  |1,hu,hv=>cases hu;cases hv;exact .c (.v _ rfl)
  |2,hu,hv=>cases hu;cases hv;exact h2.ext hE1) hFr
 have hc:=Conc.keep [(0,.pointer (some ⟨g,0,none⟩))] hc (λt u h=>by
  simp only[qB,kQ]at h;obtain⟨rfl,rfl⟩:=h
  exact hFr.get 0 _ rfl)
 refine aak (aal (wp1 rfl (af2 (hFr.get 2 _ rfl)) ?_));have hc:=hc.boxF (t:=5) (T:=45) (us:=us2) (cs:=aas v) (hv2.ext hE1) (λg o h=>nomatch h) ⟨ψ,rfl⟩
 letI kp1:Kp:=⟨[(5,.pointer (some ⟨w.heap.size,0,none⟩)),(0,.pointer (some ⟨g,0,none⟩))],[(w.heap.size,.cells us2.toArray 45 (0,0))]⟩
 replace hc : @Conc kp1 68 w X1 _ _ _ _:=hc;refine adH gX (k:=λe b=>SubE [(0,.c (.p (.v (.map (some g0))::aeu sq))),(1,.c (.v (.string s))),(5,.c (.p (aas v))),(6,.ptr 6 0)] e/\SubB [(6,.var [.v (.bool false),.sl 1 [],.v (.bool false),.sl 1 [],.v (.bool false),.sl 1 [],.v (.bool false),.sl 1 []])] b) ?_ ζ ?_ hc
 case refine_2 =>
  exact⟨⟨rfl,rfl,rfl,rfl,trivial⟩,⟨rfl,trivial⟩⟩
 rintro e b a w1 ⟨he,hb⟩ hc;replace hc:=hc.sub he hb;refine aaG ?_;refine aak (abr (τ:=wZ) gX aP _ (QA:=λz e b=>z=.normal/\SubE [(0,.c (.p (.v (.map (some g0))::aeu sq))),(1,.c (.v (.string s))),(5,.c (.p (aas v))),(6,.ptr 6 0),(7,.int .i64 (-1))] e/\SubB [(6,.var [.v (.bool false),.sl 1 [],.v (.bool false),.sl 1 [],.v (.bool false),.sl 1 [],.v (.bool false),.sl 1 []])] b) ζ ?_ hc ?_)
 case refine_1 =>
  exact⟨rfl,⟨rfl,rfl,rfl,rfl,rfl,trivial⟩,⟨rfl,trivial⟩⟩
 rintro x e b a w1 ⟨rfl,he,hb⟩ hc;replace hc:=hc.sub he hb;refine aaG ?_;have hF0:Frm 68 a [(0,.pointer (some ⟨g,0,none⟩)),(1,.string s)]:=(hc.frm.cons (hc.get (t:=1) rfl η)).cons (hc.kp (.tail _ (.head _)));have hgw:w1.heap[g]?=some (.cells (Value.map (some g0)::us').toArray T (0,0)):=(hc.sz.2.2.block g hgl).trans hgc;refine aak (aal ?_);refine wp1 rfl (aaw (hF0.ev rfl)) ?_;replace hF0:=hF0.put (d:=12) ψ (.pointer (some ⟨g,0,none⟩));replace hc:=hc.putA (t:=12) (u:=.pointer (some ⟨g,0,none⟩)) ⟨ψ,rfl⟩;refine wp1 rfl (agq (hF0.ev rfl)) ?_;replace hF0:=hF0.put (d:=13) ψ (.pointer (some ⟨g,0,none⟩));replace hc:=hc.putA (t:=13) (u:=.pointer (some ⟨g,0,none⟩)) ⟨ψ,rfl⟩;refine wp1 rfl (aaX (off:=0) ζ (hF0.ev rfl)) ?_;replace hF0:=hF0.put (d:=14) ψ (.pointer (some ⟨g,0,none⟩));replace hc:=hc.putA (t:=14) (u:=.pointer (some ⟨g,0,none⟩)) ⟨ψ,rfl⟩;refine wp1 rfl (dG (v:=.map (some g0)) ζ (hF0.ev rfl) hgw rfl) ?_;replace hF0:=hF0.put (d:=15) ψ (.map (some g0));replace hc:=hc.putA (t:=15) (u:=.map (some g0)) ⟨ψ,rfl⟩;refine wp1 rfl (aaw (hF0.ev rfl)) ?_;replace hF0:=hF0.put (d:=16) ψ (.string s);replace hc:=hc.putA (t:=16) (u:=.string s) ⟨ψ,rfl⟩;refine wp1 rfl (ag8 (g0:=g0) (k:=.string s) (v:=val s) (hF0.ev rfl) (hF0.ev rfl) (aja Tryz.underlying9 Tryz.underlying131 Tryz.zeroValue53 hF ((hc.sz.2.2.block g0 hg0).trans hmap) hval s (by unfold maxLen;omega))) ?_;replace hF0:=hF0.put (d:=17) ψ (val s);replace hc:=hc.putD (t:=17) (u:=val s) ⟨ψ,rfl⟩ hlay;refine wp1 rfl (abM (v:=val s) (hF0.ev rfl)) ?_;replace hF0:=hF0.put (d:=8) ψ (val s);replace hc:=hc.putD (t:=8) (u:=val s) ⟨ψ,rfl⟩ hlay
 have hc:=Conc.keep [(8,val s),(5,.pointer (some ⟨w.heap.size,0,none⟩)),(0,.pointer (some ⟨g,0,none⟩))] hc (λt u h=>by
  rcases mQ.1 h with h|h
  .cases h;exact hF0.get 8 _ rfl
  .exact hc.kp h)
 letI kp2:Kp:=⟨[(8,val s),(5,.pointer (some ⟨w.heap.size,0,none⟩)),(0,.pointer (some ⟨g,0,none⟩))],[(w.heap.size,.cells us2.toArray 45 (0,0))]⟩
 replace hc : @Conc kp2 68 w X1 _ _ _ _:=hc;refine(show Exit.then _ _ .normal _ _ from aaG ?_);refine aak (abr (τ:=wZ) gX aP _ (QA:=λz e b=>z=.normal/\SubE [(0,.c (.p (.v (.map (some g0))::aeu sq))),(1,.c (.v (.string s))),(5,.c (.p (aas v))),(6,.ptr 6 0),(7,.int .i64 (aaS sq v L L.length)),(8,.c (.sl 8 (L.map aas)))] e/\SubB [(6,.var [.v (.bool false),.sl 1 [],.v (.bool false),.sl 1 [],.v (.bool false),.sl 1 [],.v (.bool false),.sl 1 []])] b) ζ ?_ hc ?_)
 case refine_1 =>
  all_goals first
   |((conv=>whnf);refine Sw.Loop.inv (α:=Nat) (λx=>[(0,.c (.p (.v (.map (some g0))::aeu sq))),(1,.c (.v (.string s))),(5,.c (.p (aas v))),(6,.ptr 6 0),(7,.int .i64 (aaS sq v L x)),(8,.c (.sl 8 (L.map aas))),(18,.c (.sl 8 (L.map aas))),(19,.int .i64 (L.length:Nat)),(20,.int .i64 x)]) (λx=>[(6,.var [.v (.bool false),.sl 1 [],.v (.bool false),.sl 1 [],.v (.bool false),.sl 1 [],.v (.bool false),.sl 1 []])]) (λx=>x<=L.length) (λx=>L.length-x) 0 ?_ ?_ ?_ (λx hx=>?_))
  all_goals(repeat'((try(conv=>whnf));first
   |refine y5 ?_ ?_|(with_reducible first|refine aam ?_|refine aao ?_|refine aah (λ_=>?_) (λ_=>?_))|refine zas ζ ?_|refine aar P0 ?_ ?_))
  all_goals(try apply zar)
  all_goals first|(show SubE _ _;repeat'(first|exact trivial|refine And.intro ?_ ?_))|(show SubB _ _;repeat'(first|exact trivial|refine And.intro ?_ ?_))|skip
  all_goals(try rfl)
  all_goals(try(simp only[aN];rfl))
  all_goals(try(have hbo:=acA sq v L x ω))
  all_goals(try simp only[aN,fB]at *)
  all_goals(try simp only[dO]at *)
  all_goals first
   |exact lN _|omega|exact⟨aU ha ψ,aU hb0 ψ,aU (hgd _).1 ψ,aU (hgd _).2 ψ⟩|exact⟨Az ha hb0 (hgd _).1 (hgd _).2,aU hq ψ⟩|exact⟨Az ha hb0 (hgd _).1 (hgd _).2,Az ha hb0 (hgd _).1 (hgd _).2⟩|((conv=>whnf);exact⟨x+1,⟨⟨rfl,rfl,rfl,rfl,(by have hb1:aaS sq v L (x+1)=(x:Int):=(by first|exact if_pos ⟨ξ,.inl ω⟩|exact if_pos ⟨ξ,.inr ξ⟩);show some (AV.int IntKind.i64 ((x:Int)))=_;rw[hb1]),rfl,rfl,rfl,aK ω,trivial⟩,⟨rfl,trivial⟩,ω,(by show L.length-(x+1)<L.length-x;omega)⟩⟩)|((conv=>whnf);exact⟨x+1,⟨⟨rfl,rfl,rfl,rfl,(by have hb1:aaS sq v L (x+1)=aaS sq v L x:=(by first|exact if_neg (λh=>absurd h.1 ξ)|exact if_neg (λh=>h.2.elim (λh=>by omega) (λh=>absurd h ξ)));show some (AV.int IntKind.i64 (aaS sq v L x))=_;rw[hb1]),rfl,rfl,rfl,aK ω,trivial⟩,⟨rfl,trivial⟩,ω,(by show L.length-(x+1)<L.length-x;omega)⟩⟩)|((conv=>whnf);rename_i hh;have hxx:x=L.length:=ω;subst hxx;exact⟨by first|trivial|rfl,⟨rfl,rfl,rfl,rfl,rfl,rfl,trivial⟩,⟨rfl,trivial⟩⟩)
 rintro x e b a w1 ⟨rfl,he,hb⟩ hc;replace hc:=hc.sub he hb;refine aaG ?_;refine aak ?_;refine aak (abr (τ:=wZ) gX aP _ (QA:=λz e b=>z=.normal/\SubE [(0,.c (.p (.v (.map (some g0))::aeu sq))),(1,.c (.v (.string s))),(5,.c (.p (aas v))),(6,.ptr 6 0),(7,.int .i64 (aaS sq v L L.length)),(8,.c (.sl 8 (L.map aas))),(53,.bool (decide (aaS sq v L L.length>=0)))] e/\SubB [(6,.var [.v (.bool false),.sl 1 [],.v (.bool false),.sl 1 [],.v (.bool false),.sl 1 [],.v (.bool false),.sl 1 []])] b) ζ ?_ hc ?_)
 case refine_1 =>
  exact⟨rfl,⟨rfl,rfl,rfl,rfl,rfl,rfl,rfl,trivial⟩,⟨rfl,trivial⟩⟩
 rintro x e b a w1 ⟨rfl,he,hb⟩ hc;replace hc:=hc.sub he hb;refine aaG ?_;obtain⟨b1,b2,b3⟩:=acA sq v L L.length (gW _);have hk8:a.tmps.getD 8 undef=val s:=hc.kp (.head _);obtain⟨g6,T6,cs6,v6,hg6,hh6,hr6⟩:=hc.var (t:=6) (i:=6) rfl rfl;have hB:=hc.sz.2.2;have hl6:cs6.size=8:=by have:=hr6.len;simpa using this
 have hFm:Frm 68 a [(0,.pointer (some ⟨g,0,none⟩)),(1,.string s),(5,.pointer (some ⟨w.heap.size,0,none⟩)),(6,.pointer (some ⟨g6,0,none⟩)),(8,val s),(7,.int .i64 (aaS sq v L L.length))] :=
  (((((hc.frm.cons (hc.get (t:=7) rfl η)).cons hk8).cons v6).cons (hc.kp (.tail _ (.head _)))).cons (hc.get (t:=1) rfl η)).cons (hc.kp (.tail _ (.tail _ (.head _))))
 have hg5:w1.heap[w.heap.size]?=some (.cells us2.toArray 45 (0,0)):=hc.kh (.head _);have hsz45:(Tryz.prog.info? 45).map (·.size)=some 8:=ζ
 have hrow:isRow Tryz.prog 45 8=true:=ζ
 obtain⟨_,hsl45,z45,hel45,_,hz45⟩:=sliceT (aaq gX (t:=53) rfl);have hmo:∀q∈more,q.1∈X/\w.heap[q.1]?=some (.cells q.2.2 q.2.1 (0,0)):=λq hq=>⟨(hmore q hq).1,(hmore q hq).2.2⟩
 refine wp_cond_split (hc.get (t:=53) rfl η) (λhp=>?_) (λhp=>?_)
 case refine_1 =>
  have hbi:0<=aaS sq v L L.length:=of_decide_eq_true hp;obtain⟨j,hj⟩:=Int.eq_ofNat_of_zero_le hbi;have hjl:j<L.length:=ω
  obtain⟨gl,cap,uss,rest,hv,hogs,hmem,hrs,hcap,hle⟩:=hslot.inv κ;have hgl':=(hmore _ hmem).2.2;have hgl4:w1.heap[gl]?=some (.cells (uss.flatten++rest).toArray 45 (0,0)):=(hB.block gl (lt_of_heap hgl')).trans hgl';have hul:uss.length=L.length:=by rw[hrs.len];simp
  have hju:j<uss.length:=ω
  have hRj:RepL w X uss[j] (aas (L.getD j P0)):=hrs.get j _ _ (eY hju) (by simp[jH,hjl]);have hl8:(uss[j]).length=8:=hRj.len;have hfl8:(uss.flatten).length=uss.length*8:=aaD hrs.sz
  have hcut:(uss.flatten++rest).toArray.extract (j*8) (j*8+8)=uss[j].toArray:=by
   apply tY;apply Ku;intro i;simp only[Array.toList_extract,List.extract_eq_drop_take,KC];rw[tH]
   by_cases hi:i<8
   .rw[if_pos ω,zM,zQ ω,aaR hrs.sz (eY hju) i hi]
   .rw[if_neg ω,List.getElem?_eq_none ω]
  have hex:j*8+8<=(uss.flatten++rest).toArray.size:=by simp only[Iy,dY];omega
  rw[hj,hv,aN]at hFm;have hst:=abB (P:=Tryz.prog) (w:=w1) (t:=45) (T:=T6) (g:=g6) (off:=0) (v:=.agg uss[j].toArray) (vs:=uss[j].toArray) (cs:=cs6) rfl (by rw[hsz45];simp[hl8]) (adD hRj.one) hh6 (by simp[hl8,hl6]);rw[ad7 (by simp[hl8,hl6])]at hst;have hgr:=abd w1 g6 uss[j].toArray;have hh6':=setRow_heap w1 g6 cs6 uss[j].toArray _ _ hh6;have hB5:Below w.heap.size w (w1.setRow g6 uss[j].toArray):=⟨hgr.os.trans hB.os,hgr.tape.trans hB.tape,hgr.output.trans hB.output,aU hB.size hgr.size,λk hk=>(hgr.block k (xE hk hB.size) (λe=>by cases e;omega)).trans (hB.block k hk)⟩
  refine aak (aal (wp1 rfl (aaw (hFm.ev rfl)) ?_));replace hFm:=hFm.put (d:=54) ψ (.slice (some ⟨gl,0,none⟩) L.length cap);refine wp1 rfl (aaw (hFm.ev rfl)) ?_;replace hFm:=hFm.put (d:=55) ψ (.int .i64 (j:Nat));refine wp1 rfl (aix hsl45 (hFm.ev rfl) (hFm.ev rfl) hjl) ?_;replace hFm:=hFm.put (d:=56) ψ (.pointer (some ⟨gl,j*8,none⟩));refine wp1 rfl (EI hrow (hFm.ev rfl) hgl4 hex) ?_;rw[hcut];replace hFm:=hFm.put (d:=57) ψ (.agg uss[j].toArray);refine ajc rfl (afz (hFm.ev rfl) (hFm.ev rfl) hst) ?_;refine(show Exit.then _ _ .normal _ _ from aaG (ac6 (agT ?_)));refine ags rfl hFm.defers (yX hFm rfl hrow hh6' (by simp[hl8])) ⟨_,rfl, ?_⟩;obtain⟨e1,e2⟩:=aiI (sq:=sq) (sp:=sp) (s:=s) (v:=v) (n:=n+1) (by rw[hL];exact hbi);rw[e1,e2,hL,hj];exact ajk (st:=jst sq sp n) hB5 hmo hnd hmap ⟨us',rfl,hsq,hF,hes,val,og,hval,hsl,hinj⟩ (Nat.le_succ n) (.d (.agg hRj))
 case refine_2 =>
  have hbi:aaS sq v L L.length<0:=by have:=of_decide_eq_false hp;omega
  refine aa1 (aaG ?_);obtain⟨uss,hrs,hown,hob⟩:=hslot.row (λq hq=>(hmore q hq).2.2);rw[aN]at hown
  have hogm:∀i,og s=some i->i<w.heap.size:=λi hi=>by
   have h6:=hslot;rw[hi]at h6;generalize val s=vx at h6;generalize L.map aas=fx at h6;cases h6 with
   |some hm hr hc hx hn h0=>exact lt_of_heap (hmore _ hm).2.2
  have hF0:Frm 68 a [(0,.pointer (some ⟨g,0,none⟩)),(1,.string s),(5,.pointer (some ⟨w.heap.size,0,none⟩)),(6,.pointer (some ⟨g6,0,none⟩)),(8,val s)] :=
   ((((hc.frm.cons hk8).cons v6).cons (hc.kp (.tail _ (.head _)))).cons (hc.get (t:=1) rfl η)).cons (hc.kp (.tail _ (.tail _ (.head _))))
  have hBd:Below w.heap.size w w1.drew:=hB.drew;have hg0w:w1.drew.heap[g]?=some (.cells (Value.map (some g0)::us').toArray T (0,0)):=(hBd.block g hgl).trans hgc;have hBa:Below w.heap.size w (w1.drew.alloc (.cells us2.toArray 45)):=hBd.alloc hBd.size _;have hkeepA:∀i,i<w1.heap.size->(w1.drew.alloc (.cells us2.toArray 45)).heap[i]?=w1.heap[i]?:=λi hi=>Below.heap_alloc w1.drew _ i hi
  have hnewA:(w1.drew.alloc (.cells us2.toArray 45)).heap[w1.heap.size]?=some (.cells us2.toArray 45 (0,0)):=heap_alloc_new w1.drew _;have hszA:(w1.drew.alloc (.cells us2.toArray 45)).heap.size=w1.heap.size+1:=by simp
  obtain⟨v',w2,r1,r2,r3,r4,r5,r6⟩:=agr (P:=Tryz.prog) (ty:=53) (w:=w1.drew.alloc (.cells us2.toArray 45)) (base:=0) ψ hsl45 hel45 hz45 (afj hown (λi hi=>hBa.block i hi)) (A:=some ⟨w1.heap.size,0,none⟩) (m:=1) (c:=1) (news:=us2) (by rw[hl2]) (λad had i u hu=>by
   cases had;rw[Addr.add_lit,cell_of_row _ _ _ _ _ _ hnewA]
   simpa using hu) (λh=>by cases h) hv2.one ω (lN _)
  have hE6:Ext w X w (g6::X):=(Ext.refl w X).add hg6
  obtain⟨w3,mo',more',j1,j2,j3,j4,j5,j6,j7,j8⟩:=ajp (P:=Tryz.prog) (mT:=131) (kT:=9) (sT:=53) (T:=45) (s:=8) (st:=jst sq sp n) (w:=w) (X:=g6::X) (v':=v') (vs:=us2) (vC:=aas v) (uss:=uss) Tryz.underlying9 Tryz.underlying131 ψ rfl (hsq.ext hE6) hF hes (show n<maxLen by unfold maxLen;omega) hval (λk=>(hsl k).ext hE6) hinj
   (λq hq=>⟨yZ _ (hmore q hq).1,(hmore q hq).2.2⟩) hnd hmap (k:=s) (by unfold maxLen;omega) (hv2.ext hE6) hl2 (by rw[hfs];exact hrs.ext hE6) hBa (by rw[hfs,aN];exact r2) r3 r4 hob
  have hgb:(val s).ownBlock≠some g:=λe=>by
   rw[hob]at e;have h6:=hslot;rw[e]at h6;generalize val s=vx at h6;generalize L.map aas=fx at h6;cases h6 with
   |some hm hr hc hx hn h0=>exact(hmore _ hm).2.1 rfl
  have hg2:w2.heap[g]?=some (.cells (Value.map (some g0)::us').toArray T (0,0)):=(r3.block g (xE hgl hBa.size) (λe=>hgb e.symm)).trans ((hBa.block g hgl).trans hgc)
  refine aak (yG (N:=68) (L0:=[(0,.pointer (some ⟨g,0,none⟩)),(1,.string s),(5,.pointer (some ⟨w.heap.size,0,none⟩)),(6,.pointer (some ⟨g6,0,none⟩)),(8,val s)]) (L1:=[]) [7,8,9] [0,1,2,4,5] [[3,6],[3],[3],[]]
   [(0,.pointer (some ⟨g,0,none⟩)),(1,.pointer (some ⟨g,0,none⟩)),(2,.pointer (some ⟨g,0,none⟩)),(3,.map (some g0)),(4,.string s),(5,val s),(6,.agg us2.toArray)] aP ζ ζ ζ ζ ζ hF0 hc.frm ⟨?_, ?_, ?_, ?_, ?_,trivial⟩ ?_)
  .exact⟨_,_,_,rfl,rfl,rfl,λa w hF hb K hK=>aB rfl rfl rfl (aaw (hF.get 0 _ rfl)) hK⟩
  .exact⟨_,_,_,rfl,rfl,rfl,λa w hF hb K hK=>aB rfl rfl rfl (agq (hb _ rfl 0 _ 58 _ rfl rfl rfl rfl rfl)) hK⟩
  .exact⟨_,_,_,rfl,rfl,rfl,λa w hF hb K hK=>aB rfl rfl rfl (aaX (off:=0) ζ (hb _ rfl 1 _ 59 _ rfl rfl rfl rfl rfl)) hK⟩
  .exact⟨_,_,_,rfl,rfl,rfl,λa w hF hb K hK=>aB rfl rfl rfl (aaw (hF.get 1 _ rfl)) hK⟩
  .exact⟨_,_,_,rfl,rfl,rfl,λa w hF hb K hK=>aB rfl rfl rfl (aaw (hF.get 8 _ rfl)) hK⟩
  refine⟨⟨?_, ?_,trivial⟩,_,rfl,λa hF hF1 hb=>agF rfl rfl rfl (aii hsl45 hel45 hz45 (hb _ rfl 6 _ 64 _ rfl rfl rfl rfl rfl) (by simp[hl2])) ⟨_,_,rfl,λ_ _ h=>h, ?_⟩⟩
  .exact⟨_,_,_,rfl,rfl,rfl,λa hF hF1 hb K hK=>aB rfl rfl rfl (dG (v:=.map (some g0)) ζ (hb _ rfl 2 _ 60 _ rfl rfl rfl rfl rfl) hg0w rfl) hK⟩
  .exact⟨_,_,_,rfl,rfl,rfl,λa hF hF1 hb K hK=>aB rfl rfl rfl (kP hrow (hF.get 5 _ rfl) hg5 (by simp[hl2])) hK⟩
  refine⟨⟨?_,trivial⟩,_,rfl,λa hF hF1 hb=>agF rfl rfl rfl (ag1 (hb _ rfl 5 _ 63 _ rfl rfl rfl rfl rfl) (hF1.get 65 _ rfl) r1) ⟨_,_,rfl,λ_ _ h=>h, ?_⟩⟩
  .exact⟨_,_,_,rfl,rfl,rfl,λa hF hF1 hb K hK=>aB rfl rfl rfl (dG (v:=.map (some g0)) ζ (hb _ rfl 2 _ 60 _ rfl rfl rfl rfl rfl) ((hBa.block g hgl).trans hgc) rfl) hK⟩
  refine⟨⟨?_,trivial⟩,_,rfl,λa hF hF1 hb=>ahe rfl rfl rfl (ae4 (hb _ rfl 3 _ 61 _ rfl rfl rfl rfl rfl) (hb _ rfl 4 _ 62 _ rfl rfl rfl rfl rfl) (hF1.get 66 _ rfl) j1) ⟨undef,_,rfl,λ_ _ h=>h, ?_⟩⟩
  .exact⟨_,_,_,rfl,rfl,rfl,λa hF hF1 hb K hK=>aB rfl rfl rfl (dG (v:=.map (some g0)) ζ (hb _ rfl 2 _ 60 _ rfl rfl rfl rfl rfl) hg2 rfl) hK⟩
  refine⟨trivial,λa hF hF1 hC=>aaG ?_⟩;clear hC hF1;have hlt5:w.heap.size<w1.heap.size:=lt_of_heap hg5;have hlt6:g6<w1.heap.size:=lt_of_heap hh6;have k5:w3.heap[w.heap.size]?=some (.cells us2.toArray 45 (0,0)):=(j7 _ ω ω (λe=>by have:=hogm _ e;omega)).trans ((hkeepA _ hlt5).trans hg5);have k6:w3.heap[g6]?=some (.cells cs6 T6 (0,0)):=(j7 _ ω ω (λe=>by have:=hogm _ e;omega)).trans ((hkeepA _ hlt6).trans hh6);have hst:=abB (P:=Tryz.prog) (w:=w3) (t:=45) (T:=T6) (g:=g6) (off:=0) (v:=.agg us2.toArray) (vs:=us2.toArray) (cs:=cs6) rfl (by rw[hsz45];simp[hl2]) (adD hv2.one) k6 (by simp[hl2,hl6]);rw[ad7 (by simp[hl2,hl6])]at hst;have hgr:=abd w3 g6 us2.toArray;have hh6':=setRow_heap w3 g6 cs6 us2.toArray _ _ k6;refine aak (aal (wp1 rfl (kP hrow (hF.ev rfl) k5 (by simp[hl2])) ?_));replace hF:=hF.put (d:=67) ψ (.agg us2.toArray);refine ajc rfl (afz (hF.ev rfl) (hF.ev rfl) hst) ?_;refine(show Exit.then _ _ .normal _ _ from aaG (ac6 ?_));refine ags rfl hF.defers (yX hF rfl hrow hh6' (by simp[hl2])) ⟨_,rfl, ?_⟩;obtain⟨e1,e2⟩:=ajn (sq:=sq) (sp:=sp) (s:=s) (v:=v) (n:=n) (by rw[hL];exact hbi);rw[e1,e2];obtain⟨o1,o2,o3,o4,o5⟩:=j6
  have hmX:∀i,i∈bl more->i∈X/\i<w.heap.size:=λi hi=>by
   obtain⟨q,hq,rfl⟩:=dw.1 hi;exact⟨(hmore q hq).1,lt_of_heap (hmore q hq).2.2⟩
  have hq6:∀q∈more',q.1≠g6:=λq hq e=>by
   rcases(j4 q hq).1 with h|h
   .have:=(hmX _ h).2;omega
   .omega
  have hs5:w.heap.size<=(w3.setRow g6 us2.toArray).heap.size:=aU o4 hgr.size;have h5k:∀i,i<w.heap.size->i≠g0->i ∉ bl more->(w3.setRow g6 us2.toArray).heap[i]?=w.heap[i]?:=λi hi h1 h2=>(hgr.block i (xE hi o4) (λe=>by cases e;omega)).trans (o5 i hi h1 h2)
  have hE5:Ext w X (w3.setRow g6 us2.toArray) (bl more'++X):=⟨hs5,λi hi hx hnm=>⟨h5k i hi (λe=>hnm _ _ (e▸hmap)) (λh=>hx (hmX i h).1),λhm=>by
   rcases iH.1 hm with hm|hm
   .obtain⟨q,hq,rfl⟩:=dw.1 hm;rcases(j4 q hq).1 with h|h
    .exact hx (hmX _ h).1
    .omega
   .exact hx hm⟩⟩
  have hE3:Ext w3 (bl more'++(g6::X)) (w3.setRow g6 us2.toArray) (bl more'++X):=(Ext.write hgr η).trans (Ext.drop λx hx=>by
   rcases iH.1 hx with hx|hx
   .exact ng _ hx
   .exact kG _ (yZ _ hx))
  refine⟨more',mo',j2,(hgr.block g0 (lt_of_heap j3) (λe=>by cases e;omega)).trans j3,λq hq=>⟨?_,(hgr.block q.1 (lt_of_heap (j4 q hq).2) (λe=>hq6 q hq (by injection e))).trans (j4 q hq).2⟩,j5,⟨hgr.os.trans o1,hgr.tape.trans o2,hgr.output.trans o3,hs5,h5k⟩,.d (.agg (hv2.ext hE5)),(aeY Tryz.prog 9 45 8 _).ext j8 hE3⟩;rcases(j4 q hq).1 with h|h
  .exact .inl h
  .right;omega
end Go.Proofs.YtmniihkenijjpaaGreatDoor
namespace Go.Proofs.YtmniihkenijjpaaGreatDoor
open Go Go.RowKit Go.Sw Go.Shelf
set_option maxRecDepth 100000
set_option maxHeartbeats 16000000
set_option synthInstance.maxSize 4000
set_option synthInstance.maxHeartbeats 400000
def Fq:Tab:=(2000000000,.flag)::wZ
theorem kW:aaH Tryz.prog Fq=true:=ζ
def P9:Go.Shelf.Ren:=⟨λn=>if n=41 then 31 else n,λn=>if n=22 then 53 else if n=23 then 45 else n,id⟩
theorem PO:Go.Proofs.SlLaysE0.n41 Tryz.prog P9 where
 mixed:=aP
 f41:=⟨ "slices.Clone[[]swarf/api.Vec,swarf/api.Vec]",ψ,qh Tryz.func31 (congrArg some (Eq.refl _))⟩
 t4:=Tryz.underlying4
 a4:=Tryz.isAgg4
 z4:=Tryz.sizeOf4
 v4:=Tryz.zeroValue4
 t22:=Tryz.underlying53
 a22:=Tryz.isAgg53
 z22:=Tryz.sizeOf53
 v22:=Tryz.zeroValue53
theorem MH:∃i0,Tryz.prog.info? 45=some i0/\i0.zero=some (.agg #[.bool false,.slice none 0 0,.bool false,.slice none 0 0,.bool false,.slice none 0 0,.bool false,.slice none 0 0])/\i0.size=8/\i0.bytes=128:=info_parts ζ
instance Y4(es:List (List Cell)):DenI Tryz.prog 31 [.c (.sl 8 es)] (es.length<=1000000) (.own 45 8 es):=⟨λhp=>by
 obtain⟨i0,h1,h2,h3,h4⟩:=MH
 exact aew PO ζ i0 _ h1 h2 h3 ω rfl ψ Tryz.sizeOf45 hp⟩
instance WA(e:Ent):DenI Tryz.prog 30 [.agg (bF e)] (e.pts.length<=1000000) (uZ e):=⟨λhp=>by
 refine aaP (τ:=wZ) gX aP Tryz.func30 rfl ζ ζ ζ ?_
 all_goals(repeat'((try(conv=>whnf));first
  |(with_reducible first|refine aam ?_|refine aao ?_|refine aah (λ_=>?_) (λ_=>?_))|refine zas ζ ?_|refine aar P0 ?_ ?_|apply zaq))
 all_goals(try apply zar)
 all_goals(try simp only[aN]at *)
 all_goals(try simp(disch:=omega) only[aT]at *)
 all_goals first
  |(exfalso;omega)|exact Ii ω rfl ω|exact KI ω|omega⟩
instance(priority:=3000) iR(e:Ent):DenI Tryz.prog 30 [.agg (bF e)] (e.pts.length<=1000000) (.tup [.c (.sl 8 ((aH e).map aas)),.bool (decide (aH e≠[]))]):=⟨λhp=>Rf rfl (by by_cases h:aH e=[]<;>simp [h]) ((inferInstance:DenI Tryz.prog 30 [.agg (bF e)] _ (uZ e)).den hp)⟩
instance Wx(e:Ent)(l:List P2):DenI Tryz.prog 94 [.agg (bF e),.c (.sl 8 (l.map aas))] (e.pts.length<=1000000/\l.length=(aH e).length) (.agg (bF (dA e l))):=⟨λhp=>by
 obtain⟨hp1,hp2⟩:=hp;have hsh:=yx e
 all_goals refine aaP (τ:=Fq) kW aP Tryz.func94 rfl ζ ζ ζ ?_
 all_goals(repeat'((try(conv=>whnf));first
  |refine y5 ?_ ?_|(with_reducible refine aah (λ_=>?_) (λ_=>?_))|refine aax ?_ ?_|refine zas ζ ?_|refine xQ P0 _ ?_ ?_|refine aar P0 ?_ ?_|apply zaq))
 all_goals(try apply zar)
 all_goals(try simp only[aN]at *)
 all_goals(try simp(disch:=omega) only[aT]at *)
 all_goals first
  |omega|(simp only[Hg,aN])|exact EO ω hp2 ω|exact Ip ξ hp2⟩
instance UO(e:Ent):DenI Tryz.prog 94 [.agg (bF e),.c (.sl 0 [])] (e.pts.length<=1000000) (.agg (bF e)):=⟨λhp=>by
 refine aaP (τ:=Fq) kW aP Tryz.func94 rfl ζ ζ ζ ?_
 all_goals(repeat'((try(conv=>whnf));first
  |refine y5 ?_ ?_|(with_reducible refine aah (λ_=>?_) (λ_=>?_))|refine aax ?_ ?_|apply zaq))
 all_goals(try apply zar)
 all_goals(try simp only[aN]at *)
 all_goals first
  |omega|rfl|(exfalso;simp at *;done)⟩
instance Yp(l:ByteArray)(a b:P2)(r:Rq):DenI Tryz.prog 30 [.agg [.v (.int .i64 1),.v (.string l),.sl 8 [aas a,aas b],.v (.bool r.a),lmc r.l,.v (.bool r.b),lmc r.m]] True (.tup [.c (.sl 8 [aas a,aas b]),.bool true]):=⟨λ_=>by
 have h:=(iR ⟨1,l,[a,b],r⟩).den (by show _<=1000000;simp);simp only[aH]at h
 exact h⟩
instance YQ(l:ByteArray)(a m b:P2)(r:Rq):DenI Tryz.prog 30 [.agg [.v (.int .i64 2),.v (.string l),.sl 8 [aas a,aas m,aas b],.v (.bool r.a),lmc r.l,.v (.bool r.b),lmc r.m]] True (.tup [.c (.sl 8 [aas a,aas b]),.bool true]):=⟨λ_=>by
 have h:=(iR ⟨2,l,[a,m,b],r⟩).den (by show _<=1000000;simp);simp only[aH]at h
 exact h⟩
instance YP(l:ByteArray)(a:P2)(q:Rat):DenI Tryz.prog 30 [.agg [.v (.int .i64 3),.v (.string l),.sl 8 [aas a],zs q.num,zl q.num,zs q.den,zl q.den]] True (.tup [.c (.sl 8 []),.bool false]):=⟨λ_=>by
 have h:=(iR ⟨3,l,[a],kX q⟩).den (by show _<=1000000;simp);simp only[aH]at h
 exact h⟩
instance Us(l:ByteArray)(a m b:P2)(r:Rq):DenI Tryz.prog 95 [.agg [.v (.int .i64 2),.v (.string l),.sl 8 [aas a,aas m,aas b],.v (.bool r.a),lmc r.l,.v (.bool r.b),lmc r.m]] (aS a/\aS m/\aS b) (.bool (decide (fJ a m b=0))):=⟨λhp=>by
 obtain⟨g1,g2,g3⟩:=hp
 all_goals refine aaP (τ:=tab) fA aP Tryz.func95 rfl ζ ζ ζ ?_
 all_goals(repeat'((try(conv=>whnf));first
  |refine aa5 ?_ (λ_=>?_) (λ_=>?_)|refine zas ζ ?_|(with_reducible first|refine aaA ?_|refine aaK ?_|refine Hl ?_)|apply zaq))
 all_goals(try apply zar)
 all_goals(try simp only[dO]at *)
 all_goals first
  |exact bE (decide_eq_true ξ).symm|exact bE (decide_eq_false ξ).symm|exact⟨aU g1.1 ψ,aU g1.2 ψ,aU g2.1 ψ,aU g2.2 ψ,aU g3.1 ψ,aU g3.2 ψ⟩⟩
instance ZJ(l1 l2:ByteArray)(a m b c n d:P2)(r1 r2:Rq):DenI Tryz.prog 126 [.agg [.v (.int .i64 2),.v (.string l1),.sl 8 [aas a,aas m,aas b],.v (.bool r1.a),lmc r1.l,.v (.bool r1.b),lmc r1.m],.agg [.v (.int .i64 2),.v (.string l2),.sl 8 [aas c,aas n,aas d],.v (.bool r2.a),lmc r2.l,.v (.bool r2.b),lmc r2.m]] (aS c/\aS n/\aS d/\aS m) (.bool (vg c n d m)):=⟨λhp=>by
 obtain⟨g1,g2,g3,g4⟩:=hp
 all_goals refine aaP (τ:=tab) fA aP Tryz.func126 rfl ζ ζ ζ ?_
 all_goals(repeat'((try(conv=>whnf));first
  |refine y5 ?_ ?_|refine aa5 ?_ (λ_=>?_) (λ_=>?_)|(with_reducible first|refine aam ?_|refine aao ?_|refine aah (λ_=>?_) (λ_=>?_))|refine zas ζ ?_|(with_reducible first|refine aaA ?_|refine aaK ?_|refine Hl ?_)|apply zaq))
 all_goals(try apply zar)
 all_goals(try simp only[dO]at *)
 all_goals first
  |exact zav|(exfalso;omega)|exact bE (Ld (a:=c) (b:=n) (c:=d) (p:=m) ξ)|exact bE (Py (a:=c) (b:=n) (c:=d) (p:=m) ξ).symm|exact⟨(Ad g1 g2 g3).1,(Ad g1 g2 g3).2.1,(Ad g1 g2 g3).2.2,g1.1,g1.2,g3.1,g3.2,g4.1,g4.2⟩|exact⟨aU g1.1 ψ,aU g1.2 ψ,aU g2.1 ψ,aU g2.2 ψ,aU g3.1 ψ,aU g3.2 ψ⟩|exact⟨aU g4.1 ψ,aU g4.2 ψ⟩⟩
instance U9(l1 l2:ByteArray)(a b c d:P2)(r1:Rq)(r2:Rq):DenI Tryz.prog 96 [.agg [.v (.int .i64 1),.v (.string l1),.sl 8 [aas a,aas b],.v (.bool r1.a),lmc r1.l,.v (.bool r1.b),lmc r1.m],.agg [.v (.int .i64 1),.v (.string l2),.sl 8 [aas c,aas d],.v (.bool r2.a),lmc r2.l,.v (.bool r2.b),lmc r2.m]] (aS a/\aS b/\aS c/\aS d) (.bool (aZ ⟨1,l1,[a,b],r1⟩ ⟨1,l2,[c,d],r2⟩)):=⟨λhp=>by
 obtain⟨g1,g2,g3,g4⟩:=hp
 all_goals refine aaP (τ:=tab) fA aP Tryz.func96 rfl ζ ζ ζ ?_
 all_goals(repeat'((try(conv=>whnf));first
  |refine aaj ?_|refine y5 ?_ ?_|(with_reducible first|refine aam ?_|refine aao ?_|refine aah (λ_=>?_) (λ_=>?_)|refine aav (λ_=>?_) (λ_=>?_))|refine zat (λ_=>?_) (λ_=>?_)|refine zas ζ ?_|(with_reducible first|refine aaA ?_|refine aaK ?_)|apply zaq))
 all_goals(try apply zar)
 all_goals(try simp only[dO]at *)
 all_goals first
  |exact zav|(exfalso;omega)|exact⟨aU g1.1 ψ,aU g1.2 ψ,aU g3.1 ψ,aU g3.2 ψ⟩|exact⟨aU g2.1 ψ,aU g2.2 ψ,aU g4.1 ψ,aU g4.2 ψ⟩|exact⟨aU g1.1 ψ,aU g1.2 ψ,aU g4.1 ψ,aU g4.2 ψ⟩|exact⟨aU g2.1 ψ,aU g2.2 ψ,aU g3.1 ψ,aU g3.2 ψ⟩|trivial|(refine bE ?_;rw[JM];simp only[qJ,Bool.not_eq_false']at *;simp only[pE, *,Bool.and_true,JW,Bool.and_false,Bool.false_and,Bool.or_false,KA,Bool.or_true,Bool.true_or,decide_true,decide_false,if_true,if_false,DF,Bool.not_true,Bool.not_false,beq_self_eq_true];done)⟩
instance UW(l1 l2:ByteArray)(a b c n d:P2)(r1:Rq)(r2:Rq):DenI Tryz.prog 96 [.agg [.v (.int .i64 1),.v (.string l1),.sl 8 [aas a,aas b],.v (.bool r1.a),lmc r1.l,.v (.bool r1.b),lmc r1.m],.agg [.v (.int .i64 2),.v (.string l2),.sl 8 [aas c,aas n,aas d],.v (.bool r2.a),lmc r2.l,.v (.bool r2.b),lmc r2.m]] (aS a/\aS b/\aS c/\aS n/\aS d) (.bool (aZ ⟨1,l1,[a,b],r1⟩ ⟨2,l2,[c,n,d],r2⟩)):=⟨λhp=>by
 obtain⟨g1,g2,g3,g4,g5⟩:=hp
 all_goals refine aaP (τ:=tab) fA aP Tryz.func96 rfl ζ ζ ζ ?_
 all_goals(repeat'((try(conv=>whnf));first
  |refine aaj ?_|refine y5 ?_ ?_|(with_reducible first|refine aam ?_|refine aao ?_|refine aah (λ_=>?_) (λ_=>?_)|refine aav (λ_=>?_) (λ_=>?_))|refine zat (λ_=>?_) (λ_=>?_)|refine zas ζ ?_|(with_reducible first|refine aaA ?_|refine aaK ?_)|apply zaq))
 all_goals(try apply zar)
 all_goals(try simp only[dO]at *)
 all_goals first
  |exact zav|(exfalso;omega)|(refine bE ?_;rw[kV (by show¬((1:Int)=2);decide)];done)⟩
instance VX(l1 l2:ByteArray)(a b c:P2)(r1:Rq)(q2:Rat):DenI Tryz.prog 96 [.agg [.v (.int .i64 1),.v (.string l1),.sl 8 [aas a,aas b],.v (.bool r1.a),lmc r1.l,.v (.bool r1.b),lmc r1.m],.agg [.v (.int .i64 3),.v (.string l2),.sl 8 [aas c],zs q2.num,zl q2.num,zs q2.den,zl q2.den]] (aS a/\aS b/\aS c/\rz q2<=12) (.bool (aZ ⟨1,l1,[a,b],r1⟩ ⟨3,l2,[c],kX q2⟩)):=⟨λhp=>by
 obtain⟨g1,g2,g3,g4⟩:=hp
 all_goals refine aaP (τ:=tab) fA aP Tryz.func96 rfl ζ ζ ζ ?_
 all_goals(repeat'((try(conv=>whnf));first
  |refine aaj ?_|refine y5 ?_ ?_|(with_reducible first|refine aam ?_|refine aao ?_|refine aah (λ_=>?_) (λ_=>?_)|refine aav (λ_=>?_) (λ_=>?_))|refine zat (λ_=>?_) (λ_=>?_)|refine zas ζ ?_|(with_reducible refine aaA ?_)|apply zaq))
 all_goals(try apply zar)
 all_goals(try simp only[dO]at *)
 all_goals first
  |(exfalso;omega)|(refine bE ?_;rw[kV (by show¬((1:Int)=3);decide)];done)⟩
instance U5(l1 l2:ByteArray)(a m b c d:P2)(r1:Rq)(r2:Rq):DenI Tryz.prog 96 [.agg [.v (.int .i64 2),.v (.string l1),.sl 8 [aas a,aas m,aas b],.v (.bool r1.a),lmc r1.l,.v (.bool r1.b),lmc r1.m],.agg [.v (.int .i64 1),.v (.string l2),.sl 8 [aas c,aas d],.v (.bool r2.a),lmc r2.l,.v (.bool r2.b),lmc r2.m]] (aS a/\aS m/\aS b/\aS c/\aS d) (.bool (aZ ⟨2,l1,[a,m,b],r1⟩ ⟨1,l2,[c,d],r2⟩)):=⟨λhp=>by
 obtain⟨g1,g2,g3,g4,g5⟩:=hp
 all_goals refine aaP (τ:=tab) fA aP Tryz.func96 rfl ζ ζ ζ ?_
 all_goals(repeat'((try(conv=>whnf));first
  |refine aaj ?_|refine y5 ?_ ?_|(with_reducible first|refine aam ?_|refine aao ?_|refine aah (λ_=>?_) (λ_=>?_)|refine aav (λ_=>?_) (λ_=>?_))|refine zat (λ_=>?_) (λ_=>?_)|refine zas ζ ?_|(with_reducible first|refine aaA ?_|refine aaK ?_)|apply zaq))
 all_goals(try apply zar)
 all_goals(try simp only[dO]at *)
 all_goals first
  |(exfalso;omega)|(refine bE ?_;rw[kV (by show¬((2:Int)=1);decide)];done)⟩
instance Vw(l1 l2:ByteArray)(a m b c n d:P2)(r1:Rq)(r2:Rq):DenI Tryz.prog 96 [.agg [.v (.int .i64 2),.v (.string l1),.sl 8 [aas a,aas m,aas b],.v (.bool r1.a),lmc r1.l,.v (.bool r1.b),lmc r1.m],.agg [.v (.int .i64 2),.v (.string l2),.sl 8 [aas c,aas n,aas d],.v (.bool r2.a),lmc r2.l,.v (.bool r2.b),lmc r2.m]] (aS a/\aS m/\aS b/\aS c/\aS n/\aS d) (.bool (aZ ⟨2,l1,[a,m,b],r1⟩ ⟨2,l2,[c,n,d],r2⟩)):=⟨λhp=>by
 obtain⟨g1,g2,g3,g4,g5,g6⟩:=hp
 all_goals refine aaP (τ:=tab) fA aP Tryz.func96 rfl ζ ζ ζ ?_
 all_goals(repeat'((try(conv=>whnf));first
  |refine aaj ?_|refine y5 ?_ ?_|(with_reducible first|refine aam ?_|refine aao ?_|refine aah (λ_=>?_) (λ_=>?_)|refine aav (λ_=>?_) (λ_=>?_))|refine zat (λ_=>?_) (λ_=>?_)|refine zas ζ ?_|(with_reducible first|refine aaA ?_|refine aaK ?_)|apply zaq))
 all_goals(try apply zar)
 all_goals(try simp only[dO]at *)
 all_goals first
  |exact zav|(exfalso;omega)|exact⟨aU g1.1 ψ,aU g1.2 ψ,aU g4.1 ψ,aU g4.2 ψ⟩|exact⟨aU g3.1 ψ,aU g3.2 ψ,aU g6.1 ψ,aU g6.2 ψ⟩|exact⟨aU g1.1 ψ,aU g1.2 ψ,aU g6.1 ψ,aU g6.2 ψ⟩|exact⟨aU g3.1 ψ,aU g3.2 ψ,aU g4.1 ψ,aU g4.2 ψ⟩|exact⟨aU g2.1 ψ,aU g2.2 ψ,aU g5.1 ψ,aU g5.2 ψ⟩|exact⟨g1,g2,g3⟩|exact⟨g4,g5,g6⟩|exact⟨g4,g5,g6,g2⟩|exact⟨g1,g2,g3,g5⟩|trivial|(refine bE ?_;rw[H9];simp only[qJ,Bool.not_eq_false']at *;simp only[pE, *,Bool.and_true,JW,Bool.and_false,Bool.false_and,Bool.or_false,KA,Bool.or_true,Bool.true_or,decide_true,decide_false,if_true,if_false,DF,Bool.not_true,Bool.not_false,beq_self_eq_true];done)⟩
instance U3(l1 l2:ByteArray)(a m b c:P2)(r1:Rq)(q2:Rat):DenI Tryz.prog 96 [.agg [.v (.int .i64 2),.v (.string l1),.sl 8 [aas a,aas m,aas b],.v (.bool r1.a),lmc r1.l,.v (.bool r1.b),lmc r1.m],.agg [.v (.int .i64 3),.v (.string l2),.sl 8 [aas c],zs q2.num,zl q2.num,zs q2.den,zl q2.den]] (aS a/\aS m/\aS b/\aS c/\rz q2<=12) (.bool (aZ ⟨2,l1,[a,m,b],r1⟩ ⟨3,l2,[c],kX q2⟩)):=⟨λhp=>by
 obtain⟨g1,g2,g3,g4,g5⟩:=hp
 all_goals refine aaP (τ:=tab) fA aP Tryz.func96 rfl ζ ζ ζ ?_
 all_goals(repeat'((try(conv=>whnf));first
  |refine aaj ?_|refine y5 ?_ ?_|(with_reducible first|refine aam ?_|refine aao ?_|refine aah (λ_=>?_) (λ_=>?_)|refine aav (λ_=>?_) (λ_=>?_))|refine zat (λ_=>?_) (λ_=>?_)|refine zas ζ ?_|(with_reducible refine aaA ?_)|apply zaq))
 all_goals(try apply zar)
 all_goals(try simp only[dO]at *)
 all_goals first
  |(exfalso;omega)|(refine bE ?_;rw[kV (by show¬((2:Int)=3);decide)];done)⟩
instance UA(l1 l2:ByteArray)(a c d:P2)(q1:Rat)(r2:Rq):DenI Tryz.prog 96 [.agg [.v (.int .i64 3),.v (.string l1),.sl 8 [aas a],zs q1.num,zl q1.num,zs q1.den,zl q1.den],.agg [.v (.int .i64 1),.v (.string l2),.sl 8 [aas c,aas d],.v (.bool r2.a),lmc r2.l,.v (.bool r2.b),lmc r2.m]] (aS a/\aS c/\aS d/\rz q1<=12) (.bool (aZ ⟨3,l1,[a],kX q1⟩ ⟨1,l2,[c,d],r2⟩)):=⟨λhp=>by
 obtain⟨g1,g2,g3,g4⟩:=hp
 all_goals refine aaP (τ:=tab) fA aP Tryz.func96 rfl ζ ζ ζ ?_
 all_goals(repeat'((try(conv=>whnf));first
  |refine aaj ?_|refine y5 ?_ ?_|(with_reducible first|refine aam ?_|refine aao ?_|refine aah (λ_=>?_) (λ_=>?_)|refine aav (λ_=>?_) (λ_=>?_))|refine zat (λ_=>?_) (λ_=>?_)|refine zas ζ ?_|(with_reducible refine aaA ?_)|apply zaq))
 all_goals(try apply zar)
 all_goals(try simp only[dO]at *)
 all_goals first
  |exact zav|(exfalso;omega)|(refine bE ?_;rw[kV (by show¬((3:Int)=1);decide)];done)⟩
instance Ui(l1 l2:ByteArray)(a c n d:P2)(q1:Rat)(r2:Rq):DenI Tryz.prog 96 [.agg [.v (.int .i64 3),.v (.string l1),.sl 8 [aas a],zs q1.num,zl q1.num,zs q1.den,zl q1.den],.agg [.v (.int .i64 2),.v (.string l2),.sl 8 [aas c,aas n,aas d],.v (.bool r2.a),lmc r2.l,.v (.bool r2.b),lmc r2.m]] (aS a/\aS c/\aS n/\aS d/\rz q1<=12) (.bool (aZ ⟨3,l1,[a],kX q1⟩ ⟨2,l2,[c,n,d],r2⟩)):=⟨λhp=>by
 obtain⟨g1,g2,g3,g4,g5⟩:=hp
 all_goals refine aaP (τ:=tab) fA aP Tryz.func96 rfl ζ ζ ζ ?_
 all_goals(repeat'((try(conv=>whnf));first
  |refine aaj ?_|refine y5 ?_ ?_|(with_reducible first|refine aam ?_|refine aao ?_|refine aah (λ_=>?_) (λ_=>?_)|refine aav (λ_=>?_) (λ_=>?_))|refine zat (λ_=>?_) (λ_=>?_)|refine zas ζ ?_|(with_reducible refine aaA ?_)|apply zaq))
 all_goals(try apply zar)
 all_goals(try simp only[dO]at *)
 all_goals first
  |exact zav|(exfalso;omega)|(refine bE ?_;rw[kV (by show¬((3:Int)=2);decide)];done)⟩
instance Vd(l1 l2:ByteArray)(a c:P2)(q1:Rat)(q2:Rat):DenI Tryz.prog 96 [.agg [.v (.int .i64 3),.v (.string l1),.sl 8 [aas a],zs q1.num,zl q1.num,zs q1.den,zl q1.den],.agg [.v (.int .i64 3),.v (.string l2),.sl 8 [aas c],zs q2.num,zl q2.num,zs q2.den,zl q2.den]] (aS a/\aS c/\rz q1<=12/\rz q2<=12) (.bool (aZ ⟨3,l1,[a],kX q1⟩ ⟨3,l2,[c],kX q2⟩)):=⟨λhp=>by
 obtain⟨g1,g2,g3,g4⟩:=hp
 all_goals refine aaP (τ:=tab) fA aP Tryz.func96 rfl ζ ζ ζ ?_
 all_goals(repeat'((try(conv=>whnf));first
  |refine aaj ?_|refine y5 ?_ ?_|(with_reducible first|refine aam ?_|refine aao ?_|refine aah (λ_=>?_) (λ_=>?_)|refine aav (λ_=>?_) (λ_=>?_))|refine zat (λ_=>?_) (λ_=>?_)|refine zas ζ ?_|(with_reducible refine aaA ?_)|apply zaq))
 all_goals(try apply zar)
 all_goals(try simp only[dO]at *)
 all_goals first
  |exact zav|exact⟨aU g1.1 ψ,aU g1.2 ψ,aU g2.1 ψ,aU g2.2 ψ⟩|exact⟨aU g3 ψ,aU g4 ψ⟩|(refine bE ?_;rw[Jk];simp only[qJ,Bool.not_eq_false']at *;simp only[pE, *,Bool.and_true,JW,Bool.and_false,Bool.false_and,Bool.or_false,KA,Bool.or_true,Bool.true_or,decide_true,decide_false,if_true,if_false,DF,Bool.not_true,Bool.not_false,beq_self_eq_true];done)⟩
instance(priority:=2000) Xx(e f:Ent):DenI Tryz.prog 96 [.agg (bF e),.agg (bF f)] (okV e/\okV f) (.bool (aZ e f)):=⟨λ⟨h1,h2⟩=>by
 rcases oV h1 with⟨l1,a,b,r1,rfl,g1,g3,_⟩|⟨l1,a,m,b,r1,rfl,g1,g2,g3,_⟩|⟨l1,a,q1,rfl,g1,_,g7,_⟩<;>rcases oV h2 with⟨l2,c,d,r2,rfl,g4,g6,_⟩|⟨l2,c,n,d,r2,rfl,g4,g5,g6,_⟩|⟨l2,c,q2,rfl,g4,_,g8,_⟩
 .exact(U9 l1 l2 a b c d r1 r2).den ⟨g1,g3,g4,g6⟩
 .exact(UW l1 l2 a b c n d r1 r2).den ⟨g1,g3,g4,g5,g6⟩
 .exact(VX l1 l2 a b c r1 q2).den ⟨g1,g3,g4,g8⟩
 .exact(U5 l1 l2 a m b c d r1 r2).den ⟨g1,g2,g3,g4,g6⟩
 .exact(Vw l1 l2 a m b c n d r1 r2).den ⟨g1,g2,g3,g4,g5,g6⟩
 .exact(U3 l1 l2 a m b c r1 q2).den ⟨g1,g2,g3,g4,g8⟩
 .exact(UA l1 l2 a c d q1 r2).den ⟨g1,g4,g6,g7⟩
 .exact(Ui l1 l2 a c n d q1 r2).den ⟨g1,g4,g5,g6,g7⟩
 .exact(Vd l1 l2 a c q1 q2).den ⟨g1,g4,g7,g8⟩⟩
instance(priority:=2000) Zv(e:Ent):DenI Tryz.prog 95 [.agg (bF e)] (e.kind=2/\okV e) (.bool (tZ e)):=⟨λ⟨h0,h1⟩=>by
 rcases oV h1 with⟨l1,a,b,r1,rfl,_⟩|⟨l1,a,m,b,r1,rfl,g1,g2,g3,_⟩|⟨l1,a,q1,rfl,_⟩
 .cases h0
 .exact(Us l1 a m b r1).den ⟨g1,g2,g3⟩
 .cases h0⟩
@[reducible] def bC(b:Bool):List Cell:=[.v (.bool b)]
instance XQ(l:List (Ent × Nat)):DenI Tryz.prog 52 [.c (.sl 8 (l.map fU))] (l.length<=12/\∀x∈l,okV x.1) (.c (.sl 1 ((bn (l.map (·.1))).map bC))):=⟨λhp=>by
 obtain⟨h1,h4⟩:=hp
 all_goals refine aaP (τ:=tab) fA aP Tryz.func52 rfl ζ ζ ζ ?_
 all_goals(repeat'((try(conv=>whnf));first
  |refine aaW ?_ ?_))
 all_goals(try apply zar)
 all_goals first
  |((conv=>whnf);refine Sw.Loop.inv (α:=Nat) (λx=>[(0,.c (.sl 8 (l.map fU))),(3,.gs 8 l.length),(10,.int .i64 (l.length:Nat)),(11,.int .i64 (x:Nat))]) (λx=>[(8,.grow 4 1 ((qg (l.map (·.1)) x).map bC))]) (λx=>x<=l.length) (λx=>l.length-x) 0 ?_ ?_ ?_ (λx hx=>?_))|skip
 all_goals(repeat'((try(conv=>whnf));first
  |(with_reducible refine aah (λ_=>?_) (λ_=>?_))|refine aax ?_ ?_|apply zaq))
 all_goals(try apply zar)
 all_goals first
  |((conv=>whnf);refine Sw.Loop.inv (α:=Nat) (λk=>[(0,.c (.sl 8 (l.map fU))),(3,.gs 8 l.length),(4,.int .i64 (x:Nat)),(10,.int .i64 (l.length:Nat)),(11,.int .i64 (x:Nat)),(14,.int .i64 (x:Nat)),(15,.int .i64 (k:Nat))]) (λk=>[(8,.grow 4 1 ((qg (l.map (·.1)) x).map bC))]) (λk=>k<=x/\lQ (l.map (·.1)) x k=false) (λk=>x-k) 0 ?_ ?_ ?_ (λk hk=>?_))|skip
 all_goals(repeat'((try(conv=>whnf));first
  |refine y5 ?_ ?_|(with_reducible first|refine aam ?_|refine aao ?_|refine aah (λ_=>?_) (λ_=>?_))|refine zat (λ_=>?_) (λ_=>?_)|refine aax ?_ ?_|refine zas ζ ?_|refine aar N0 ?_ ?_|refine aar false ?_ ?_))
 all_goals(try apply zar)
 all_goals(try simp only[aN,fB]at *)
 all_goals first
  |omega|trivial|exact⟨lN _,rfl⟩|((with_reducible show SubB _ _);refine⟨?_,trivial⟩;show some (Bk.grow 4 1 _)=some (Bk.grow 4 1 _);rw[Vl,List.map_replicate,aN])|(have hrl:=rpL (l:=l) (x:=x) ω;omega)|exact⟨wG h4 ω,wG h4 ω⟩|((with_reducible show aai _=_);have hxx:x=l.length:=ω;subst hxx;rw[Nv];rfl)|(have hh:=RZ (l:=l) (x:=x) (k:=k) ω ω hk.2 (by first|exact .inl ξ|exact .inr ξ);(conv=>whnf);exact⟨k+1,⟨⟨rfl,rfl,rfl,rfl,rfl,rfl,aK ω,trivial⟩,⟨rfl,trivial⟩,⟨ω,hh⟩,(by show x-(k+1)<x-k;omega)⟩⟩)|(have hh:=Sv (l:=l) (x:=x) (k:=k) ω ω ξ ξ;(conv=>whnf);exact⟨x+1,⟨⟨rfl,rfl,rfl,aK ω,trivial⟩,⟨(by rw[hh,List.map_set];(first|done|rfl)),trivial⟩,ω,(by show l.length-(x+1)<l.length-x;omega)⟩⟩)|(have hxx:k=x:=ω;subst hxx;have hh:=UJ (l:=l) (x:=k) ω hk.2;(conv=>whnf);exact⟨k+1,⟨⟨rfl,rfl,rfl,aK ω,trivial⟩,⟨(by rw[hh];(first|done|rfl)),trivial⟩,ω,(by show l.length-(k+1)<l.length-k;omega)⟩⟩)⟩
instance OD(l:List (Ent × Nat))(i k:Nat)(v:P2):DenI Tryz.prog 97 [.c (.sl 8 (l.map fU)),.int .i64 (i:Nat),.int .i64 (k:Nat),.agg (aas v)] (l.length<=12/\i<l.length/\k<=1/\aS v/\∀x∈l,L8 x.1) (.bool (tN l (l.getD i N0).1.layer i k v)):=⟨λ⟨h1,h2,hk,h3,h4⟩=>by
 refine aaP (τ:=wZ) gX aP Tryz.func97 rfl ζ ζ ζ ?_
 (conv=>whnf)
 refine Sw.Loop.inv (α:=Nat) (λx=>[(0,.c (.sl 8 (l.map fU))),(1,.int .i64 (i:Nat)),(2,.int .i64 (k:Nat)),(7,.ptr 7 0),(15,.c (.sl 8 (l.map fU))),(16,.int .i64 (l.length:Nat)),(17,.int .i64 (x:Nat))]) (λx=>[(7,.var (aas v))]) (λx=>x<=l.length/\∀j<x,metAt l (l.getD i N0).1.layer i k v j=false) (λx=>l.length-x) 0 ?_ ?_ ?_ (λx hx=>?_)
 .exact⟨rfl,rfl,rfl,rfl,rfl,by simp only[aN];rfl,rfl,trivial⟩
 .exact⟨rfl,trivial⟩
 .exact⟨lN _,λj hj=>absurd hj (EK _)⟩
 obtain⟨hx1,hx2⟩:=hx;obtain⟨g1,g2,g3⟩:=CS h4 x;rcases jk (l.getD x N0).1 with hE|⟨a,b,hE⟩
 .haveI ie:DenI Tryz.prog 30 [.agg (bF (l.getD (Int.toNat ((x:Nat):Int)) N0).1)] ((l.getD x N0).1.pts.length<=1000000) (.tup [.c (.sl 8 []),.bool false]):=⟨λhp=>by have:=(iR (l.getD x N0).1).den hp;rw[hE]at this;simpa using this⟩
  all_goals(repeat'((try(conv=>whnf));first
   |refine aaj ?_|refine y5 ?_ ?_|refine aa5 ?_ (λ_=>?_) (λ_=>?_)|(with_reducible first|refine aam ?_|refine aao ?_|refine aah (λ_=>?_) (λ_=>?_)|refine aav (λ_=>?_) (λ_=>?_))|refine zat (λ_=>?_) (λ_=>?_)|refine aax ?_ ?_|refine zas ζ ?_|refine aaW ?_ ?_|refine aa2 ?_ ?_|(with_reducible first|refine aaB ?_ ?_|refine aaA ?_|refine aaK ?_)|refine aar N0 ?_ ?_|apply zaq))
  all_goals(try apply zar)
  all_goals first
   |((conv=>whnf);refine Sw.Loop.unroll ?_)|skip
  all_goals(repeat'((try rw[Ci]);(try rw[yE]);(try(conv=>whnf));first
   |refine aaj ?_|refine y5 ?_ ?_|(with_reducible first|refine aam ?_|refine aao ?_)|refine cZ (by simp only[dK,dZ];decide) ?_|refine dR (by simp only[dK,dZ];decide) ?_|refine cZ ψ ?_|refine dR ψ ?_|(with_reducible first|refine aah (λ_=>?_) (λ_=>?_)|refine aav (λ_=>?_) (λ_=>?_))|refine zat (λ_=>?_) (λ_=>?_)|refine aax ?_ ?_|refine zas ζ ?_|refine aaW ?_ ?_|refine aa2 ?_ ?_|(with_reducible first|refine aaB ?_ ?_|refine aaA ?_|refine aaK ?_)|apply zaq))
  all_goals(try apply zar)
  all_goals(try simp only[aN,fB]at *)
  all_goals first
   |omega|((with_reducible show _/\_);first|omega|exact⟨aU h3.1 ψ,aU h3.2 ψ,aU ha.1 ψ,aU ha.2 ψ⟩|exact⟨aU h3.1 ψ,aU h3.2 ψ,aU hb.1 ψ,aU hb.2 ψ⟩)|exact zbh|exact zbi|(exfalso;rename_i q;simp at q;done)|(have hm:=uw (i:=i) (k:=k) (v:=v) (l:=l) (x:=x) ω ξ;(conv=>whnf);exact⟨x+1,⟨⟨rfl,rfl,rfl,rfl,rfl,rfl,aK ω,trivial⟩,⟨rfl,trivial⟩,⟨ω,oh hx2 hm⟩,(by show l.length-(x+1)<l.length-x;omega)⟩⟩)|(have hm:=ED (s:=(l.getD i N0).1.layer) (i:=i) (k:=k) (v:=v) (l:=l) (x:=x) ω hE;(conv=>whnf);exact⟨x+1,⟨⟨rfl,rfl,rfl,rfl,rfl,rfl,aK ω,trivial⟩,⟨rfl,trivial⟩,⟨ω,oh hx2 hm⟩,(by show l.length-(x+1)<l.length-x;omega)⟩⟩)|skip
 .haveI ie:DenI Tryz.prog 30 [.agg (bF (l.getD (Int.toNat ((x:Nat):Int)) N0).1)] ((l.getD x N0).1.pts.length<=1000000) (.tup [.c (.sl 8 [aas a,aas b]),.bool true]):=⟨λhp=>by have:=(iR (l.getD x N0).1).den hp;rw[hE]at this;simpa using this⟩
  have ha:aS a:=g1 a (eU (by rw[hE];simp));have hb:aS b:=g1 b (eU (by rw[hE];simp))
  all_goals(repeat'((try(conv=>whnf));first
   |refine aaj ?_|refine y5 ?_ ?_|refine aa5 ?_ (λ_=>?_) (λ_=>?_)|(with_reducible first|refine aam ?_|refine aao ?_|refine aah (λ_=>?_) (λ_=>?_)|refine aav (λ_=>?_) (λ_=>?_))|refine zat (λ_=>?_) (λ_=>?_)|refine aax ?_ ?_|refine zas ζ ?_|refine aaW ?_ ?_|refine aa2 ?_ ?_|(with_reducible first|refine aaB ?_ ?_|refine aaA ?_|refine aaK ?_)|refine aar N0 ?_ ?_|apply zaq))
  all_goals(try apply zar)
  all_goals first
   |((conv=>whnf);refine Sw.Loop.unroll ?_)|skip
  all_goals(repeat'((try rw[Ci]);(try rw[yE]);(try(conv=>whnf));first
   |refine aaj ?_|refine y5 ?_ ?_|(with_reducible first|refine aam ?_|refine aao ?_)|refine cZ (by simp only[dK,dZ];decide) ?_|refine dR (by simp only[dK,dZ];decide) ?_|refine cZ ψ ?_|refine dR ψ ?_|(with_reducible first|refine aah (λ_=>?_) (λ_=>?_)|refine aav (λ_=>?_) (λ_=>?_))|refine zat (λ_=>?_) (λ_=>?_)|refine aax ?_ ?_|refine zas ζ ?_|refine aaW ?_ ?_|refine aa2 ?_ ?_|(with_reducible first|refine aaB ?_ ?_|refine aaA ?_|refine aaK ?_)|apply zaq))
  all_goals(try apply zar)
  all_goals first
   |((conv=>whnf);refine Sw.Loop.unroll ?_)|skip
  all_goals(repeat'((try rw[Ci]);(try rw[yE]);(try(conv=>whnf));first
   |refine aaj ?_|refine y5 ?_ ?_|(with_reducible first|refine aam ?_|refine aao ?_)|refine cZ (by simp only[dK,dZ];decide) ?_|refine dR (by simp only[dK,dZ];decide) ?_|refine cZ ψ ?_|refine dR ψ ?_|(with_reducible first|refine aah (λ_=>?_) (λ_=>?_)|refine aav (λ_=>?_) (λ_=>?_))|refine zat (λ_=>?_) (λ_=>?_)|refine aax ?_ ?_|refine zas ζ ?_|refine aaW ?_ ?_|refine aa2 ?_ ?_|(with_reducible first|refine aaB ?_ ?_|refine aaA ?_|refine aaK ?_)|apply zaq))
  all_goals(try apply zar)
  all_goals first
   |((conv=>whnf);refine Sw.Loop.unroll ?_)|skip
  all_goals(repeat'((try rw[Ci]);(try rw[yE]);(try(conv=>whnf));first
   |refine aaj ?_|refine y5 ?_ ?_|(with_reducible first|refine aam ?_|refine aao ?_)|refine cZ (by simp only[dK,dZ];decide) ?_|refine dR (by simp only[dK,dZ];decide) ?_|refine cZ ψ ?_|refine dR ψ ?_|(with_reducible first|refine aah (λ_=>?_) (λ_=>?_)|refine aav (λ_=>?_) (λ_=>?_))|refine zat (λ_=>?_) (λ_=>?_)|refine aax ?_ ?_|refine zas ζ ?_|refine aaW ?_ ?_|refine aa2 ?_ ?_|(with_reducible first|refine aaB ?_ ?_|refine aaA ?_|refine aaK ?_)|apply zaq))
  all_goals(try apply zar)
  all_goals(try simp only[aN,fB]at *)
  all_goals first
   |omega|((with_reducible show _/\_);first|omega|exact⟨aU h3.1 ψ,aU h3.2 ψ,aU ha.1 ψ,aU ha.2 ψ⟩|exact⟨aU h3.1 ψ,aU h3.2 ψ,aU hb.1 ψ,aU hb.2 ψ⟩)|exact zbh|exact zbi|(exfalso;rename_i q;simp at q;done)|(have hm:=uw (i:=i) (k:=k) (v:=v) (l:=l) (x:=x) ω ξ;(conv=>whnf);exact⟨x+1,⟨⟨rfl,rfl,rfl,rfl,rfl,rfl,aK ω,trivial⟩,⟨rfl,trivial⟩,⟨ω,oh hx2 hm⟩,(by show l.length-(x+1)<l.length-x;omega)⟩⟩)|(have hm:metAt l (l.getD i N0).1.layer i k v x=false:=(by(rw[wK ω hE ξ];clear hx2 h4;grind));(conv=>whnf);exact⟨x+1,⟨⟨rfl,rfl,rfl,rfl,rfl,rfl,aK ω,trivial⟩,⟨rfl,trivial⟩,⟨ω,oh hx2 hm⟩,(by show l.length-(x+1)<l.length-x;omega)⟩⟩)|skip⟩
instance Yb(l:List (Ent × Nat))(i:Nat)(v:P2):DenI Tryz.prog 97 [.c (.sl 8 (l.map fU)),.int .i64 (i:Nat),.int .i64 0,.agg (aas v)] (l.length<=12/\i<l.length/\aS v/\∀x∈l,L8 x.1) (.bool (tN l (l.getD i N0).1.layer i 0 v)):=⟨λhp=>(OD l i 0 v).den ⟨hp.1,hp.2.1,ω,hp.2.2⟩⟩
instance Yo(l:List (Ent × Nat))(i:Nat)(v:P2):DenI Tryz.prog 97 [.c (.sl 8 (l.map fU)),.int .i64 (i:Nat),.int .i64 1,.agg (aas v)] (l.length<=12/\i<l.length/\aS v/\∀x∈l,L8 x.1) (.bool (tN l (l.getD i N0).1.layer i 1 v)):=⟨λhp=>(OD l i 1 v).den ⟨hp.1,hp.2.1,ω,hp.2.2⟩⟩
instance W9(l:List (Ent × Nat)):DenI Tryz.prog 54 [.c (.sl 8 (l.map fU))] (l.length<=12/\∀x∈l,L8 x.1) (.c (.sl 19 ((uG l).map mJ))):=⟨λ⟨h1,h4⟩=>by
 refine aaP (τ:=wZ) gX aP Tryz.func54 rfl ζ ζ ζ ?_
 (conv=>whnf)
 refine Sw.Loop.ghost 3 100 47 19 ?_ rfl rfl rfl ψ;refine Sw.Loop.inv (α:=Nat) (λx=>[(0,.c (.sl 8 (l.map fU))),(10,.c (.sl 8 (l.map fU))),(11,.int .i64 (l.length:Nat)),(12,.int .i64 (x:Nat)),(3,.gs 100 ((GL l x).map mJ).length)]) (λx=>[(100,.grow 47 19 ((GL l x).map mJ))]) (λx=>x<=l.length) (λx=>l.length-x) 0 ?_ ?_ ?_ (λx hx=>?_)
 .exact⟨rfl,rfl,by simp only[aN];rfl,rfl,rfl,trivial⟩
 .exact⟨rfl,trivial⟩
 .exact lN _
 have hol:=qL l x hx;obtain⟨g1,g2,g3⟩:=CS h4 x;rcases jk (l.getD x N0).1 with hE|⟨a,b,hE⟩
 .haveI ie:DenI Tryz.prog 30 [.agg (bF (l.getD (Int.toNat ((x:Nat):Int)) N0).1)] ((l.getD x N0).1.pts.length<=1000000) (.tup [.c (.sl 8 []),.bool false]):=⟨λhp=>by have:=(iR (l.getD x N0).1).den hp;rw[hE]at this;simpa using this⟩
  all_goals(repeat'((try(conv=>whnf));first
   |refine y5 ?_ ?_|(with_reducible refine aah (λ_=>?_) (λ_=>?_))|refine aax ?_ ?_|refine aar N0 ?_ ?_|apply zaq))
  all_goals(try apply zar)
  all_goals first
   |((conv=>whnf);refine Sw.Loop.unroll ?_)|skip
  all_goals(repeat'((try rw[Ci]);(try rw[yE]);(try(conv=>whnf));first
   |refine dR (by simp only[dK,dZ];decide) ?_))
  all_goals(try simp only[aN,fB]at *)
  all_goals first
   |omega|((with_reducible show aai _=_);have hxx:x=l.length:=ω;subst hxx;rfl)|(have hA:=DT (l:=l) (x:=x) ω hE;(conv=>whnf);exact⟨x+1,⟨⟨rfl,rfl,rfl,aK ω,(by(simp only[hA,dI,dJ,eF,dB,dY,aN,dK,dZ]);(first|done|rfl)),trivial⟩,⟨(by(simp only[hA,dI,dJ,eF,dB]);(first|done|rfl)),trivial⟩,ω,(by show l.length-(x+1)<l.length-x;omega)⟩⟩)
 .haveI ie:DenI Tryz.prog 30 [.agg (bF (l.getD (Int.toNat ((x:Nat):Int)) N0).1)] ((l.getD x N0).1.pts.length<=1000000) (.tup [.c (.sl 8 [aas a,aas b]),.bool true]):=⟨λhp=>by have:=(iR (l.getD x N0).1).den hp;rw[hE]at this;simpa using this⟩
  have ha:aS a:=g1 a (eU (by rw[hE];simp));have hb:aS b:=g1 b (eU (by rw[hE];simp))
  all_goals(repeat'((try(conv=>whnf));first
   |refine y5 ?_ ?_|(with_reducible refine aah (λ_=>?_) (λ_=>?_))|refine aax ?_ ?_|refine aar N0 ?_ ?_|apply zaq))
  all_goals(try apply zar)
  all_goals first
   |((conv=>whnf);refine Sw.Loop.unroll ?_)|skip
  all_goals(repeat'((try rw[Ci]);(try rw[yE]);(try(conv=>whnf));first
   |refine y5 ?_ ?_|(with_reducible refine aah (λ_=>?_) (λ_=>?_))|refine zat (λ_=>?_) (λ_=>?_)|refine aax ?_ ?_|(with_reducible refine aaA ?_)))
  all_goals(try apply zar)
  all_goals first
   |((conv=>whnf);refine Sw.Loop.unroll ?_)|skip
  all_goals(repeat'((try rw[Ci]);(try rw[yE]);(try(conv=>whnf));first
   |refine y5 ?_ ?_|(with_reducible refine aah (λ_=>?_) (λ_=>?_))|refine zat (λ_=>?_) (λ_=>?_)|refine aax ?_ ?_|(with_reducible refine aaK ?_)))
  all_goals(try apply zar)
  all_goals first
   |((conv=>whnf);refine Sw.Loop.unroll ?_)|skip
  all_goals(repeat'((try rw[Ci]);(try rw[yE]);(try(conv=>whnf));first
   |(with_reducible refine aah (λ_=>?_) (λ_=>?_))))
  all_goals(try simp only[aN,fB]at *)
  all_goals first
   |omega|exact za0|((with_reducible show _/\_);first|omega|exact⟨h1,ω,ha,h4⟩|exact⟨h1,ω,hb,h4⟩)|((with_reducible show aai _=_);have hxx:x=l.length:=ω;subst hxx;rfl)|(exfalso;rename_i q;simp at q;done)|(have hA:=DK (l:=l) (x:=x) ω hE;first|(have q1:=wJ (n:=(l.getD x N0).2) (l:=l) (s:=(l.getD x N0).1.layer) (i:=x) (k:=0) (v:=a) ξ;have q2:=wJ (n:=(l.getD x N0).2) (l:=l) (s:=(l.getD x N0).1.layer) (i:=x) (k:=1) (v:=b) ξ;(conv=>whnf);exact⟨x+1,⟨⟨rfl,rfl,rfl,aK ω,(by(simp only[hA,q1,q2,lS,lX,jf,dI,dJ,eF,dB,dY,aN,dK,dZ]);(first|done|rfl)),trivial⟩,⟨(by(simp only[hA,q1,q2,lS,lX,jf,dI,dJ,eF,dB]);(first|done|rfl)),trivial⟩,ω,(by show l.length-(x+1)<l.length-x;omega)⟩⟩)|(have q1:=wJ (n:=(l.getD x N0).2) (l:=l) (s:=(l.getD x N0).1.layer) (i:=x) (k:=0) (v:=a) ξ;have q2:=vT (n:=(l.getD x N0).2) (l:=l) (s:=(l.getD x N0).1.layer) (i:=x) (k:=1) (v:=b) ξ;(conv=>whnf);exact⟨x+1,⟨⟨rfl,rfl,rfl,aK ω,(by(simp only[hA,q1,q2,lS,lX,jf,dI,dJ,eF,dB,dY,aN,dK,dZ]);(first|done|rfl)),trivial⟩,⟨(by(simp only[hA,q1,q2,lS,lX,jf,dI,dJ,eF,dB]);(first|done|rfl)),trivial⟩,ω,(by show l.length-(x+1)<l.length-x;omega)⟩⟩)|(have q1:=vT (n:=(l.getD x N0).2) (l:=l) (s:=(l.getD x N0).1.layer) (i:=x) (k:=0) (v:=a) ξ;have q2:=wJ (n:=(l.getD x N0).2) (l:=l) (s:=(l.getD x N0).1.layer) (i:=x) (k:=1) (v:=b) ξ;(conv=>whnf);exact⟨x+1,⟨⟨rfl,rfl,rfl,aK ω,(by(simp only[hA,q1,q2,lS,lX,jf,dI,dJ,eF,dB,dY,aN,dK,dZ]);(first|done|rfl)),trivial⟩,⟨(by(simp only[hA,q1,q2,lS,lX,jf,dI,dJ,eF,dB]);(first|done|rfl)),trivial⟩,ω,(by show l.length-(x+1)<l.length-x;omega)⟩⟩)|(have q1:=vT (n:=(l.getD x N0).2) (l:=l) (s:=(l.getD x N0).1.layer) (i:=x) (k:=0) (v:=a) ξ;have q2:=vT (n:=(l.getD x N0).2) (l:=l) (s:=(l.getD x N0).1.layer) (i:=x) (k:=1) (v:=b) ξ;(conv=>whnf);exact⟨x+1,⟨⟨rfl,rfl,rfl,aK ω,(by(simp only[hA,q1,q2,lS,lX,jf,dI,dJ,eF,dB,dY,aN,dK,dZ]);(first|done|rfl)),trivial⟩,⟨(by(simp only[hA,q1,q2,lS,lX,jf,dI,dJ,eF,dB]);(first|done|rfl)),trivial⟩,ω,(by show l.length-(x+1)<l.length-x;omega)⟩⟩))⟩
end Go.Proofs.YtmniihkenijjpaaGreatDoor
