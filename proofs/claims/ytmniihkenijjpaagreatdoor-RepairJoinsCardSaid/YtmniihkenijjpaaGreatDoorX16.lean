/-
  Rules of the abstract run, plain laws, and what functions answer, for the law RepairJoins.
  Conditions: none.
-/
import Derived.Test.YtmniihkenijjpaaGreatDoorX15
import Derived.Shelf.Strings.Repeat
import Derived.Lib.Builder
import Derived.Shelf.Strings.Builder1
import Derived.Lib.Bytealg
import Derived.Lib.Strings
import Derived.Lib.Walk
import Derived.Shelf.LaysM
import Derived.Shelf.Strconv.Itoa1
import Derived.Shelf.Strconv.Itoa2
import Derived.Lib.ItoaMem
import Derived.Lib.ItoaLen
import Derived.Lib.AppendIntMem
import Derived.WalkKit
import Derived.BigCall
import Derived.BigGuard
import Derived.Shelf.SlicesE.Clone
set_option linter.all false
namespace Go.Proofs.YtmniihkenijjpaaGreatDoor
open Go Go.RowKit Go.Sw Go.Shelf
set_option maxRecDepth 100000
set_option maxHeartbeats 8000000
def aaM:Go.Shelf.Ren:=⟨λn=>if n=99 then 292 else if n=105 then 256 else if n=165 then 293 else if n=166 then 288 else if n=169 then 290 else if n=170 then 294 else if n=206 then 328 else if n=212 then 291 else if n=240 then 324 else if n=241 then 329 else if n=263 then 326 else if n=264 then 327 else if n=276 then 349 else if n=277 then 354 else n,λn=>if n=37 then 270 else if n=46 then 228 else if n=51 then 154 else if n=53 then 152 else if n=70 then 269 else if n=72 then 272 else if n=80 then 279 else if n=75 then 274 else if n=76 then 276 else if n=109 then 280 else if n=127 then 315 else if n=146 then 316 else if n=148 then 318 else if n=164 then 337 else n,λn=>n⟩
theorem VP:Go.Proofs.Lays.n105 Tryz.prog aaM where
 mixed:=cO
 f99:=zF Tryz.func292 (congrArg some (Eq.refl _))
 f105:=zF Tryz.func256 (congrArg some (Eq.refl _))
 f165:=zF Tryz.func293 (congrArg some (Eq.refl _))
 f166:=zF Tryz.func288 (congrArg some (Eq.refl _))
 f169:=zF Tryz.func290 (congrArg some (Eq.refl _))
 f170:=zF Tryz.func294 (congrArg some (Eq.refl _))
 f206:=zF Tryz.func328 (congrArg some (Eq.refl _))
 f212:=zF Tryz.func291 (congrArg some (Eq.refl _))
 f240:=zF Tryz.func324 (congrArg some (Eq.refl _))
 f241:=zF Tryz.func329 (congrArg some (Eq.refl _))
 f263:=zF Tryz.func326 (congrArg some (Eq.refl _))
 f264:=zF Tryz.func327 (congrArg some (Eq.refl _))
 f276:=zF Tryz.func349 (congrArg some (Eq.refl _))
 f277:=zF Tryz.func354 (congrArg some (Eq.refl _))
 t0:=Tryz.underlying0
 a0:=Tryz.isAgg0
 z0:=Tryz.sizeOf0
 v0:=Tryz.zeroValue0
 t3:=Tryz.underlying3
 a3:=Tryz.isAgg3
 z3:=Tryz.sizeOf3
 v3:=Tryz.zeroValue3
 t4:=Tryz.underlying4
 a4:=Tryz.isAgg4
 z4:=Tryz.sizeOf4
 v4:=Tryz.zeroValue4
 t5:=Tryz.underlying5
 a5:=Tryz.isAgg5
 z5:=Tryz.sizeOf5
 v5:=Tryz.zeroValue5
 t9:=Tryz.underlying9
 a9:=Tryz.isAgg9
 z9:=Tryz.sizeOf9
 v9:=Tryz.zeroValue9
 t20:=Tryz.underlying20
 a20:=Tryz.isAgg20
 z20:=Tryz.sizeOf20
 v20:=Tryz.zeroValue20
 t37:=Tryz.underlying270
 a37:=Tryz.isAgg270
 z37:=Tryz.sizeOf270
 v37:=Tryz.zeroValue270
 t46:=Tryz.underlying228
 a46:=Tryz.isAgg228
 z46:=Tryz.sizeOf228
 v46:=Tryz.zeroValue228
 t51:=Tryz.underlying154
 a51:=Tryz.isAgg154
 z51:=Tryz.sizeOf154
 v51:=Tryz.zeroValue154
 t53:=Tryz.underlying152
 a53:=Tryz.isAgg152
 z53:=Tryz.sizeOf152
 v53:=Tryz.zeroValue152
 t70:=Tryz.underlying269
 a70:=Tryz.isAgg269
 z70:=Tryz.sizeOf269
 v70:=Tryz.zeroValue269
 t72:=Tryz.underlying272
 a72:=Tryz.isAgg272
 z72:=Tryz.sizeOf272
 v72:=Tryz.zeroValue272
 t75:=Tryz.underlying274
 a75:=Tryz.isAgg274
 z75:=Tryz.sizeOf274
 v75:=Tryz.zeroValue274
 t76:=Tryz.underlying276
 a76:=Tryz.isAgg276
 z76:=Tryz.sizeOf276
 v76:=Tryz.zeroValue276
 t109:=Tryz.underlying280
 a109:=Tryz.isAgg280
 z109:=Tryz.sizeOf280
 v109:=Tryz.zeroValue280
 t127:=Tryz.underlying315
 a127:=Tryz.isAgg315
 z127:=Tryz.sizeOf315
 v127:=Tryz.zeroValue315
 t146:=Tryz.underlying316
 a146:=Tryz.isAgg316
 z146:=Tryz.sizeOf316
 v146:=Tryz.zeroValue316
 t148:=Tryz.underlying318
 a148:=Tryz.isAgg318
 z148:=Tryz.sizeOf318
 v148:=Tryz.zeroValue318
 t164:=Tryz.underlying337
 a164:=Tryz.isAgg337
 z164:=Tryz.sizeOf337
 v164:=Tryz.zeroValue337
theorem aaw:Builder.Extra Tryz.prog aaM where
 sizeBuilder:=by kernel_rfl
 liesBuilder:=by kernel_rfl
 t5:=Tryz.underlying5
 a5:=Tryz.isAgg5
 z5:=Tryz.sizeOf5
 v5:=Tryz.zeroValue5
 infoByte:=by kernel_rfl
 cellsByte:=by kernel_rfl
 sizeByte:=by kernel_rfl
 neB5:=by decide
theorem adF{k:Nat}(hk:k≤9)(w:World):Calls Tryz.prog 256 #[.string ⟨#[48]⟩,.int .i64 k] w λe w'=>e=.returned (.string ⟨(List.replicate k (48:UInt8)).toArray⟩)∧Below w.heap.size w w':=by
 refine(Any.strings_Repeat VP aaw ⟨#[48]⟩ k w (by omega) (by show 1*k≤_;omega)).mono ?_;rintro e w' ⟨rfl,hb⟩;refine⟨?_,hb⟩
 have:Lib.repeatL [(48:UInt8)] k=List.replicate k 48:=by
  have:∀k:Nat,k≤9→Lib.repeatL [(48:UInt8)] k=List.replicate k 48:=by decide +kernel
  exact this k hk
 rw[show(ByteArray.mk #[48]).data.toList=[(48:UInt8)]from rfl,this]
theorem Xk:(Tryz.prog.info? 272).map (λi=>i.size)=some 2:=by kernel_rfl
theorem abu:liesAt Tryz.prog Tryz.prog.depth 272 (2/Tryz.prog.cellsOf 272) 0 272 1=true:=by kernel_rfl
theorem Vx(b:Nat)(w:World)(h0:w.cell? ⟨b,0,none⟩=some (.pointer (some ⟨b,0,none⟩))):
 Calls Tryz.prog 324 #[.pointer (some ⟨b,0,none⟩)] w λe w'=>e=.returned (.tuple #[])∧w'=w:=by
 obtain⟨j,hj,_⟩:=Option.map_eq_some_iff.1 Xk
 go_enter Tryz.func324,Tryz.ntmps324
 go_wp2
 rw[Lib.run_neq_ptr_same w _ Tryz.underlying269 hj]
 go_wp2
 go_end0
 exact⟨rfl,rfl⟩
theorem QG(b:Nat)(w:World)(h0:w.cell? ⟨b,0,none⟩=some (.pointer none))(hsh:w.shape? b=some (272,2))(hfz:w.frozen? ⟨b,0,none⟩=false):
 Calls Tryz.prog 324 #[.pointer (some ⟨b,0,none⟩)] w λe w'=>e=.returned (.tuple #[])∧w'=w.setCell ⟨b,0,none⟩ (.pointer (some ⟨b,0,none⟩)):=by
 obtain⟨j,hj,hjs⟩:=Option.map_eq_some_iff.1 Xk
 go_enter Tryz.func324,Tryz.ntmps324
 go_wp2
 rw[Lib.run_to_unsafe w ⟨b,0,none⟩ Tryz.underlying269 Tryz.underlying337 hj (by rw[hjs];decide) hsh (Nat.zero_lt_succ 1)];simp only[Result.andThen];rw[Oper.upon_value]
 go_wp2
 rw[run_callFunc_extern Tryz.func349 (by kernel_rfl) (by kernel_rfl) (by kernel_rfl) (e:=Extern.AbiNoEscape.same) (by kernel_rfl)];rw[Lib.run_noEscape];simp only[Result.andThen];rw[Oper.upon_value]
 go_wp2
 rw[Lib.run_from_unsafe w ⟨b,0,none⟩ Tryz.underlying337 Tryz.underlying269 hj hsh abu];simp only[Result.andThen];rw[Oper.upon_value]
 go_wp2
 go_end0
 exact⟨rfl,rfl⟩
theorem cc_(B b:Nat)(bs:List Value)(w:World)(h:Lib.IsBuilder 272 5 B b bs w):
 Calls Tryz.prog 324 #[.pointer (some ⟨b,0,none⟩)] w λe w'=>e=.returned (.tuple #[])∧(Lib.BuilderAt 272 5 B b (.pointer (some ⟨b,0,none⟩)) bs w'∧Below B w w'):=by
 rcases h with h|h
 ·refine(QG b w h.cell0 h.shape h.frozen0).mono ?_;rintro e w' ⟨rfl,rfl⟩;exact⟨rfl,h.used _,(Below.refl B w).setCell (p:=⟨b,0,none⟩) h.1 _⟩
 ·refine(Vx b w h.cell0).mono ?_;rintro e w' ⟨rfl,rfl⟩;exact⟨rfl,h,Below.refl _ _⟩
theorem Xd:∃i0,Tryz.prog.info? 5=some i0∧i0.zero=some (.int .u8 0)∧i0.size=1∧i0.bytes=1:=info_parts (by kernel_rfl)
theorem EI(w:World){b:Nat}{x y:Value}(h:w.heap[b]?=some (.cells #[x,y] 272 (0,0))):b<w.heap.size:=by
 rcases D7 b w.heap.size with h'|h'
 ·exact h'
 ·simp[Array.getElem?_eq_none h']at h
theorem wb_(B b:Nat)(bs:List Value)(c:Int)(w:World)(h:Lib.IsBuilder 272 5 B b bs w)(hlen:bs.length+1≤1000000)(hBw:B≤w.heap.size):
 Calls Tryz.prog 287 #[.pointer (some ⟨b,0,none⟩),.int .u8 c] w λe w'=>e=.returned .nilIface∧(Lib.BuilderAt 272 5 B b (.pointer (some ⟨b,0,none⟩)) (bs++[.int .u8 c]) w'∧Below B w w'):=by
 obtain⟨i0,hi,hz0,hz1,hz2⟩:=Xd
 go_enter Tryz.func287,Tryz.ntmps287
 go_wp2_with (go_at_call 324;refine(cc_ B b bs _ h).mono ?_)
 rintro e w1 ⟨rfl,h1,hb1⟩;obtain⟨hB,v,hbk,hown,hne⟩:=h1;have c0:w1.cell? ⟨b,0,none⟩=some (.pointer (some ⟨b,0,none⟩)):=by rw[Lib.cell_of_heap hbk];rfl
 have c1:w1.cell? ⟨b,1,none⟩=some v:=by rw[Lib.cell_of_heap hbk];rfl
 go_wp2_with (at_builtin;refine wpList_append_own _ rfl _ _ 270 rfl B 5 i0 (.int .u8 0) 1 1 Tryz.underlying270 hi hz0 hz1 hz2 rfl (by decide) _ _ _ rfl (hown.alloc _) ⟨w1.heap.size,0,none⟩ 1 1 [.int .u8 c] rfl rfl ?c1 ?c2 ?c3 ?c4 ?c5 ?_)
 case c1 =>
  intro j u hj
  match j,hj with
  |0,hj=>simp at hj;subst hj;simp[Addr.add]
 case c2=>intro u hu;simp at hu;subst hu;rfl
 case c3=>unfold maxLen;omega
 case c4=>omega
 case c5=>have:=hb1.size;simp;omega
 intro v' w2 hown' hgrow _;have hlt:=EI w1 hbk
 have hb2:w2.heap[b]?=some (.cells #[.pointer (some ⟨b,0,none⟩),v] 272 (0,0)):=by
  rw[hgrow.block b (by simp;omega) (λe=>hne e.symm),Lib.alloc_old w1 _ b hlt];exact hbk
 have d0:w2.cell? ⟨b,0,none⟩=some (.pointer (some ⟨b,0,none⟩)):=by rw[Lib.cell_of_heap hb2];rfl
 have d1:w2.cell? ⟨b,1,none⟩=some v:=by rw[Lib.cell_of_heap hb2];rfl
 have f1:w2.frozen? ⟨b,1,none⟩=false:=Lib.frozen_of_heap hb2 1
 obtain⟨g,cap,rfl⟩:∃g cap,v'=.slice (some ⟨g,0,none⟩) (bs.length+1) cap:=by
  rcases hown'.2 with⟨_,h0⟩|⟨g,cap,cur,hv,_⟩
  ·omega
  ·exact⟨g,cap,hv⟩
 go_wp2
 go_ret
 refine⟨rfl, ?_, ?_⟩
 ·exact Lib.BuilderAt.put (T:=272) (e:=5) hB hb2 (bs':=bs++[.int .u8 c]) (by simpa using hown') (by decide)
 ·exact((hb1.alloc (by have:=hb1.size;omega) _).grown hgrow (by have:=hb1.size;simp;omega) (λk hk=>(hown.lt k hk).1)).setCell (p:=⟨b,1,none⟩) hB _
theorem ws_(B b:Nat)(bs:List Value)(s:ByteArray)(w:World)(h:Lib.IsBuilder 272 5 B b bs w)(hlen:bs.length+s.size≤1000000)(hBw:B≤w.heap.size):
 Calls Tryz.prog 288 #[.pointer (some ⟨b,0,none⟩),.string s] w λe w'=>e=.returned (.tuple #[.int .i64 s.size,.nilIface])∧(Lib.BuilderAt 272 5 B b (.pointer (some ⟨b,0,none⟩)) (bs++Lib.strCells s) w'∧Below B w w'):=by
 obtain⟨i0,hi,hz0,hz1,hz2⟩:=Xd
 go_enter Tryz.func288,Tryz.ntmps288
 go_wp2_with (go_at_call 324;refine(cc_ B b bs _ h).mono ?_)
 rintro e w1 ⟨rfl,h1,hb1⟩;obtain⟨hB,v,hbk,hown,hne⟩:=h1;have c0:w1.cell? ⟨b,0,none⟩=some (.pointer (some ⟨b,0,none⟩)):=by rw[Lib.cell_of_heap hbk];rfl
 have c1:w1.cell? ⟨b,1,none⟩=some v:=by rw[Lib.cell_of_heap hbk];rfl
 go_wp2_with (at_builtin;refine Lib.wpList_append_own_string _ rfl _ _ 270 9 rfl B 5 i0 Tryz.underlying270 Tryz.underlying9 hi hz0 hz1 hz2 _ _ _ rfl hown s rfl ?c3 ?c4 ?c5 ?_)
 case c3=>unfold maxLen;omega
 case c4=>omega
 case c5=>have:=hb1.size;omega
 intro v' w2 hown' hgrow _;have hlt:=EI w1 hbk
 have hb2:w2.heap[b]?=some (.cells #[.pointer (some ⟨b,0,none⟩),v] 272 (0,0)):=by
  rw[hgrow.block b hlt (λe=>hne e.symm)];exact hbk
 have d0:w2.cell? ⟨b,0,none⟩=some (.pointer (some ⟨b,0,none⟩)):=by rw[Lib.cell_of_heap hb2];rfl
 have d1:w2.cell? ⟨b,1,none⟩=some v:=by rw[Lib.cell_of_heap hb2];rfl
 have f1:w2.frozen? ⟨b,1,none⟩=false:=Lib.frozen_of_heap hb2 1
 obtain⟨ao,n',cap,rfl⟩:∃ao n' cap,v'=.slice ao n' cap:=by
  rcases hown'.2 with⟨hv,_⟩|⟨g,cap,cur,hv,_⟩
  ·exact⟨_,_,_,hv⟩
  ·exact⟨_,_,_,hv⟩
 go_wp2
 go_ret2
 refine⟨rfl, ?_, ?_⟩
 ·exact Lib.BuilderAt.put (T:=272) (e:=5) hB hb2 (bs':=bs++Lib.strCells s) (by simpa[Lib.strCells_length]using hown') (by decide)
 ·exact(hb1.grown hgrow (by have:=hb1.size;omega) (λk hk=>(hown.lt k hk).1)).setCell (p:=⟨b,1,none⟩) hB _
def Gf:Ren where
 f:=λx=>match x with|169=>290|n=>n
 t:=λx=>match x with|70=>269|9=>9|0=>0|72=>272|37=>270|127=>315|3=>3|5=>5|n=>n
 g:=λx=>x
theorem Ku:Lays.n169 Tryz.prog Gf where
 mixed:=by kernel_rfl
 f169:=zF Tryz.func290 (congrArg some (Eq.refl (Body.n169 Gf)))
 t0:=Tryz.underlying0
 a0:=Tryz.isAgg0
 z0:=Tryz.sizeOf0
 v0:=Tryz.zeroValue0
 t3:=Tryz.underlying3
 a3:=Tryz.isAgg3
 z3:=Tryz.sizeOf3
 v3:=Tryz.zeroValue3
 t9:=Tryz.underlying9
 a9:=Tryz.isAgg9
 z9:=Tryz.sizeOf9
 v9:=Tryz.zeroValue9
 t37:=Tryz.underlying270
 a37:=Tryz.isAgg270
 z37:=Tryz.sizeOf270
 v37:=Tryz.zeroValue270
 t70:=Tryz.underlying269
 a70:=Tryz.isAgg269
 z70:=Tryz.sizeOf269
 v70:=Tryz.zeroValue269
 t72:=Tryz.underlying272
 a72:=Tryz.isAgg272
 z72:=Tryz.sizeOf272
 v72:=Tryz.zeroValue272
 t127:=Tryz.underlying315
 a127:=Tryz.isAgg315
 z127:=Tryz.sizeOf315
 v127:=Tryz.zeroValue315
theorem Qh:Builder.Extra Tryz.prog Gf where
 sizeBuilder:=by kernel_rfl
 liesBuilder:=by kernel_rfl
 t5:=Tryz.underlying5
 a5:=Tryz.isAgg5
 z5:=Tryz.sizeOf5
 v5:=Tryz.zeroValue5
 infoByte:=by kernel_rfl
 cellsByte:=by kernel_rfl
 sizeByte:=by kernel_rfl
 neB5:=by decide
theorem rO(w:World)(o:Obj):(w.alloc o).heap.size=w.heap.size+1:=by simp[World.alloc,-World.alloc_eq]
theorem Og(w:World)(o:Obj):(w.alloc o).heap[w.heap.size]?=some o:=by simp[World.alloc,-World.alloc_eq]
theorem x9{w w1:World}{x y:Array Value}{s t:TypeId}(hb:Below ((w.alloc (.cells x s)).alloc (.cells y t)).heap.size ((w.alloc (.cells x s)).alloc (.cells y t)) w1):
 w1.heap[w.heap.size]?=some (.cells x s (0,0))∧w1.heap[w.heap.size+1]?=some (.cells y t (0,0))∧Below w.heap.size w w1∧w.heap.size+2≤w1.heap.size:=by
 have e1:=rO w (.cells x s);have e2:=rO (w.alloc (.cells x s)) (.cells y t);refine⟨?_, ?_,⟨hb.os,hb.tape,hb.output, ?_,λk hk=>?_⟩, ?_⟩
 ·rw[hb.block _ (by omega),Lib.alloc_old _ _ _ (by omega),Og]
 ·rw[hb.block _ (by omega),←e1,Og]
 ·have:=hb.size;omega
 ·rw[hb.block k (by omega),Lib.alloc_old _ _ _ (by omega),Lib.alloc_old _ _ _ hk]
 ·have:=hb.size;omega
theorem yY{w2:World}{g:Nat}{x y:Value}{t:TypeId}(h:w2.heap[g]?=some (.cells #[x,y] t (0,0))):w2.cell? ⟨g,1,none⟩=some y:=by
 rw[Lib.cell_of_heap h];rfl
theorem Ky{w:World}{b:Nat}{o:Obj}(h:w.heap[b]?=some o):b<w.heap.size:=by
 rcases D7 b w.heap.size with h'|h'
 ·exact h'
 ·simp[Array.getElem?_eq_none h']at h
theorem nN{w w':World}{T e:TypeId}{B b:Nat}{p:Value}{bs:List Value}(h:Lib.BuilderAt T e B b p bs w)(hb:Below w.heap.size w w'):Lib.BuilderAt T e B b p bs w':=by
 obtain⟨h1,v,h2,h3,h4⟩:=h;refine⟨h1,v,by rw[hb.block b (Ky h2)];exact h2,⟨h3.1, ?_⟩,h4⟩;rcases h3.2 with h|⟨g,cap,cur,k1,k2,k3,k4⟩
 ·exact .inl h
 ·exact .inr ⟨g,cap,cur,k1,k2,by rw[hb.block g (Ky k3)];exact k3,k4⟩
set_option maxHeartbeats 6400000 in
theorem Sr(L:Nat)(x:Nat→Nat)(D:Nat→List UInt8)(A:Addr)(cap:Nat)(w:World)(hW:Wld.ok Tryz.prog w)(hA:A.block<w.heap.size)(hc:∀i,i<L→w.cell? (A.add i)=some (.int .u32 ((x i:Nat):Int)))
 (hn:0<L) (hl:L≤100000) (hx:∀i,x i<1000000000) (hD:D (L-1)=Lib.decDigits (x (L-1))) (hs:∀i,i+1<L→D (i+1)++List.replicate (9-Lib.nDigits (x i)) 48++Lib.decDigits (x i)=D i) (hdl:∀i,(D i).length≤9*L) (h0:0<(D 0).length) :
 Calls Tryz.prog 255 #[.agg #[.bool false,.slice (some A) L cap]] w λe w'=>e=.returned (.string ⟨([]++D 0).toArray⟩)∧Below w.heap.size w w':=by
 have hln:¬((L:Nat):Int)=0:=by omega
 have w1:wrap64 ((L:Int)-1)=((L-1:Nat):Int):=by unfold wrap64;omega
 have hci:∀(w1:World) (i:Nat),i<L→Below w.heap.size w w1→w1.cell? (A.add i)=some (.int .u32 ((x i:Nat):Int)):=λw1 i hi h=>by rw[h.cell (by rw[block_add];exact hA)];exact hc i hi
 have hbl:∀i,i+1<L→bv ([]++D (i+1))++Lib.strCells ⟨(List.replicate (9-Lib.nDigits (x i)) (48:UInt8)).toArray⟩++Lib.strCells (sD (x i))=bv ([]++D i):=λi hi=>by
  rw[←hs i hi,TQ,show Lib.strCells (sD (x i))=bv (Lib.decDigits (x i))from rfl,←yx,←yx,nT,nT,nT]
 have hbd:bv ([]++D (L-1))=bv []++Lib.strCells (sD (x (L-1))):=by rw[hD,yx];rfl
 have hdl:∀i,(bv ([]++D i)).length≤9*L+1:=λi=>by have:=hdl i;rw[Us,iy];simp only[iR,jB];omega
 have hb0:bv ([]++D 0)=([]++D 0:List UInt8).map λb:UInt8=>Value.int .u8 (b.toNat:Int):=rfl
 have hne:[]++D 0≠[]:=by intro e;have:=congrArg List.length e;rw[iy,jB]at this;omega
 clear hs hD hc;have c1:=hci;have hxt:=hx (L-1);have hdt:=tY (x (L-1));have hgt:=zZ hxt;have ctop:=λw1 h=>hci w1 (L-1) (by omega) h
 generalize hxg:x (L-1)=xt at hxt hdt hgt ctop hbd;clear c1
 go_enter Tryz.func255,Tryz.ntmps255
 have e1:=rO w (.cells #[.bool false,.slice (some A) L cap] 28);obtain⟨r1,r2,hW0,r3⟩:=x9 (Below.refl _ ((w.alloc (.cells #[.bool false,.slice (some A) L cap] 28)).alloc (.cells #[.pointer none,.slice none 0 0] 272)));have c1:=ctop _ hW0;have hk0:Wld.ok Tryz.prog ((w.alloc (.cells #[.bool false,.slice (some A) L cap] 28)).alloc (.cells #[.pointer none,.slice none 0 0] 272)):=Wld.keep hW hW0;clear hW0 r1 r2 r3
 go_wp2_with (go_at_call 289;refine(FUa (m:=xt) (by omega) _ hk0).mono ?_)
 rintro e w1 ⟨rfl,hb1⟩;obtain⟨q0,q1,hW1,hsz⟩:=x9 hb1;have hB:Lib.IsBuilder 272 5 (w.heap.size+1) (w.heap.size+1) [] w1:=.inl ⟨jE _,.slice none 0 0,q1,World.ownsRow_nil _ _ _ _,by simp[Value.ownBlock]⟩;clear hb1 c1 hk0
 go_wp2_with (go_at_call 288;refine(ws_ _ _ _ (sD xt) _ hB (by simp only[jB];omega) (by omega)).mono ?_)
 rintro e w2 ⟨rfl,hB2,hb2⟩;have q2:w2.heap[w.heap.size]?=some (.cells #[.bool false,.slice (some A) L cap] 28 (0,0)):=by rw[hb2.block _ (by omega)];exact q0
 have hW3:Below w.heap.size w w2:=hW1.trans (hb2.mono (by omega));have hs2:w.heap.size+2≤w2.heap.size:=by have:=hb2.size;omega
 clear hB q0 q1 hW1 hsz hb2 ctop;have w2e:wrap64 ((L:Int)-2)=((L-1:Nat):Int)-1:=by unfold wrap64;omega
 rw[show([]:List Value)++Lib.strCells (sD xt)=bv ([]++D (L-1))from hbd.symm]at hB2;clear hbd hxg hxt hdt hgt
 go_wp2
 go_loopg [5] L (λkk s5 wr=>∃i:Nat,i+1≤L∧i≤kk∧s5=.int .i64 ((i:Int)-1)∧Lib.BuilderAt 272 5 (w.heap.size+1) (w.heap.size+1) (.pointer (some ⟨w.heap.size+1,0,none⟩)) (bv ([]++D i)) wr ∧
  wr.heap[w.heap.size]?=some (.cells #[.bool false,.slice (some A) L cap] 28 (0,0))∧Below w.heap.size w wr∧w.heap.size+2≤wr.heap.size)
 case atStart =>
  refine⟨L-1,by omega,by omega,by congr 1;omega, ?_,q2,hW3,hs2⟩;exact hB2
 case round =>
  obtain⟨i,hi1,hi2,rfl,hBi,qi,hWi,hsi⟩:=hrel;clear hB2 q2 hW3 hs2 w2e w1;have ci:=yY qi;cases i with
  |zero =>
   clear hci hbl hdl hx;rw[hb0]at hBi
   go_wp2_with (go_at_call 290;refine(Any.Builder_String Ku Qh _ _ ([]++D 0) _ (.inr hBi) hne).mono ?_)
   rintro e w3 ⟨rfl,hb3⟩
   go_wp2
   go_ret
   exact⟨rfl,hWi.trans (hb3.mono (by omega))⟩
  |succ i =>
   have cy:=hci wr i (by omega) hWi;have hlb:=hx i;have hbl:=hbl i (by omega);have hdl1:=hdl (i+1);have hdl0:=hdl i;have hpos:((i+1:Nat):Int)-1≥0:=by omega
   have hz:((i+1:Nat):Int)-1=(i:Int):=by omega
   have hk1:Wld.ok Tryz.prog wr:=Wld.keep hW hWi;have hsy:=tY (x i);have hdy:=zZ hlb;clear hci hdl hb0 hne h0 hx;generalize x i=y at cy hlb hbl hsy hdy;obtain⟨k,hk⟩:∃k,k+Lib.nDigits y=9:=⟨9-Lib.nDigits y,by omega⟩
   rw[show 9-Lib.nDigits y=k by omega]at hbl;have e9:(9:Int)-(Lib.nDigits y:Int)=(k:Int):=by omega
   have wi:wrap64 ((i:Int)-1)=(i:Int)-1:=by unfold wrap64;omega
   rw[hz]at hpos ⊢;clear hz
   go_wp2_with (go_at_call 289;refine(FUa (m:=y) (by omega) _ hk1).mono ?_)
   rintro e wa ⟨rfl,hba⟩;have hBa:=nN hBi hba;have hsa:w.heap.size+2≤wa.heap.size:=by have:=hba.size;omega
   have qa:wa.heap[w.heap.size]?=some (.cells #[.bool false,.slice (some A) L cap] 28 (0,0)):=by rw[hba.block _ (by omega)];exact qi
   have hWa:Below w.heap.size w wa:=hWi.trans (hba.mono (by omega));clear hBi qi ci cy hWi hsi hba hk1
   go_wp2_with (go_at_call 256;refine(adF (k:=k) (by omega) _).mono ?_)
   rintro e wb_ ⟨rfl,hbb⟩;have hBb:=nN hBa hbb;have hsb:w.heap.size+2≤wb_.heap.size:=by have:=hbb.size;omega
   have qb:wb_.heap[w.heap.size]?=some (.cells #[.bool false,.slice (some A) L cap] 28 (0,0)):=by rw[hbb.block _ (by omega)];exact qa
   have hWb:Below w.heap.size w wb_:=hWa.trans (hbb.mono (by omega));clear hBa qa hWa hsa hbb;have hrl:(ByteArray.mk (List.replicate k (48:UInt8)).toArray).size=k:=by show(List.replicate k (48:UInt8)).toArray.size=_;rw[VD,zO]
   generalize ByteArray.mk (List.replicate k (48:UInt8)).toArray=rs at hrl hbl ⊢
   go_wp2_with (go_at_call 288;refine(ws_ _ _ _ rs _ (.inr hBb) (by omega) (by omega)).mono ?_)
   rintro e wc ⟨rfl,hBc,hbc⟩;have hsc:w.heap.size+2≤wc.heap.size:=by have:=hbc.size;omega
   have qc:wc.heap[w.heap.size]?=some (.cells #[.bool false,.slice (some A) L cap] 28 (0,0)):=by rw[hbc.block _ (by omega)];exact qb
   have hWc:Below w.heap.size w wc:=hWb.trans (hbc.mono (by omega));clear hBb qb hWb hsb hbc
   go_wp2_with (go_at_call 288;refine(ws_ _ _ _ (sD y) _ (.inr hBc) (by rw[iy,Lib.strCells_length];omega) (by omega)).mono ?_)
   rintro e wd ⟨rfl,hBd,hbd⟩;rw[hbl]at hBd;have hsd:w.heap.size+2≤wd.heap.size:=by have:=hbd.size;omega
   have qd:wd.heap[w.heap.size]?=some (.cells #[.bool false,.slice (some A) L cap] 28 (0,0)):=by rw[hbd.block _ (by omega)];exact qc
   have hWd:Below w.heap.size w wd:=hWc.trans (hbd.mono (by omega));clear hBc qc hWc hsc hbd
   go_wp2
   go_roundg i
   case measure=>omega
   case rel=>exact⟨i,by omega,jE _,rfl,hBd,qd,hWd,hsd⟩
set_option maxHeartbeats 6400000 in
theorem Qq(L:Nat)(x:Nat→Nat)(D:Nat→List UInt8)(A:Addr)(cap:Nat)(w:World)(hW:Wld.ok Tryz.prog w)(hA:A.block<w.heap.size)(hc:∀i,i<L→w.cell? (A.add i)=some (.int .u32 ((x i:Nat):Int)))
 (hn:0<L) (hl:L≤100000) (hx:∀i,x i<1000000000) (hD:D (L-1)=Lib.decDigits (x (L-1))) (hs:∀i,i+1<L→D (i+1)++List.replicate (9-Lib.nDigits (x i)) 48++Lib.decDigits (x i)=D i) (hdl:∀i,(D i).length≤9*L) (h0:0<(D 0).length) :
 Calls Tryz.prog 255 #[.agg #[.bool true,.slice (some A) L cap]] w λe w'=>e=.returned (.string ⟨([45]++D 0).toArray⟩)∧Below w.heap.size w w':=by
 have hln:¬((L:Nat):Int)=0:=by omega
 have w1:wrap64 ((L:Int)-1)=((L-1:Nat):Int):=by unfold wrap64;omega
 have hci:∀(w1:World) (i:Nat),i<L→Below w.heap.size w w1→w1.cell? (A.add i)=some (.int .u32 ((x i:Nat):Int)):=λw1 i hi h=>by rw[h.cell (by rw[block_add];exact hA)];exact hc i hi
 have hbl:∀i,i+1<L→bv ([45]++D (i+1))++Lib.strCells ⟨(List.replicate (9-Lib.nDigits (x i)) (48:UInt8)).toArray⟩++Lib.strCells (sD (x i))=bv ([45]++D i):=λi hi=>by
  rw[←hs i hi,TQ,show Lib.strCells (sD (x i))=bv (Lib.decDigits (x i))from rfl,←yx,←yx,nT,nT,nT]
 have hbd:bv ([45]++D (L-1))=bv [45]++Lib.strCells (sD (x (L-1))):=by rw[hD,yx];rfl
 have hdl:∀i,(bv ([45]++D i)).length≤9*L+1:=λi=>by have:=hdl i;rw[Us,iy];simp only[iR,jB];omega
 have hb0:bv ([45]++D 0)=([45]++D 0:List UInt8).map λb:UInt8=>Value.int .u8 (b.toNat:Int):=rfl
 have hne:[45]++D 0≠[]:=by intro e;have:=congrArg List.length e;rw[iy,jB]at this;omega
 clear hs hD hc;have c1:=hci;have hxt:=hx (L-1);have hdt:=tY (x (L-1));have hgt:=zZ hxt;have ctop:=λw1 h=>hci w1 (L-1) (by omega) h
 generalize hxg:x (L-1)=xt at hxt hdt hgt ctop hbd;clear c1
 go_enter Tryz.func255,Tryz.ntmps255
 have e1:=rO w (.cells #[.bool true,.slice (some A) L cap] 28);obtain⟨q0,q1,hW0,hsz0⟩:=x9 (Below.refl _ ((w.alloc (.cells #[.bool true,.slice (some A) L cap] 28)).alloc (.cells #[.pointer none,.slice none 0 0] 272)));have hB:Lib.IsBuilder 272 5 (w.heap.size+1) (w.heap.size+1) [] ((w.alloc (.cells #[.bool true,.slice (some A) L cap] 28)).alloc (.cells #[.pointer none,.slice none 0 0] 272)):=.inl ⟨jE _,.slice none 0 0,q1,World.ownsRow_nil _ _ _ _,by simp[Value.ownBlock]⟩
 go_wp2_with (go_at_call 287;refine(wb_ _ _ _ 45 _ hB (by decide) (by omega)).mono ?_)
 rintro e w0 ⟨rfl,hB0,hb0'⟩;have hW1:Below w.heap.size w w0:=hW0.trans (hb0'.mono (by omega));have q5:w0.heap[w.heap.size]?=some (.cells #[.bool true,.slice (some A) L cap] 28 (0,0)):=by rw[hb0'.block _ (by omega)];exact q0
 have c5:=yY q5;have c6:=ctop w0 hW1;clear hB q0 q1 hW0;have hs0:w.heap.size+2≤w0.heap.size:=by have:=hb0'.size;omega
 clear hb0';have hk0:Wld.ok Tryz.prog w0:=Wld.keep hW hW1
 go_wp2_with (go_at_call 289;refine(FUa (m:=xt) (by omega) _ hk0).mono ?_)
 rintro e w1 ⟨rfl,hb1⟩;have hW2:Below w.heap.size w w1:=hW1.trans (hb1.mono (by omega));have hB1:=nN hB0 hb1;have q6:w1.heap[w.heap.size]?=some (.cells #[.bool true,.slice (some A) L cap] 28 (0,0)):=by rw[hb1.block _ (by omega)];exact q5
 have hs1:w.heap.size+2≤w1.heap.size:=by have:=hb1.size;omega
 clear hb1 c5 c6 hk0
 go_wp2_with (go_at_call 288;refine(ws_ _ _ _ (sD xt) _ (.inr hB1) (by simp only[iy,jB,iR];omega) (by omega)).mono ?_)
 rintro e w2 ⟨rfl,hB2,hb2⟩;have q2:w2.heap[w.heap.size]?=some (.cells #[.bool true,.slice (some A) L cap] 28 (0,0)):=by rw[hb2.block _ (by omega)];exact q6
 have hW3:Below w.heap.size w w2:=hW2.trans (hb2.mono (by omega));have hs2:w.heap.size+2≤w2.heap.size:=by have:=hb2.size;omega
 clear hB1 hB0 q5 q6 hW1 hW2 hs0 hs1 hb2 hsz0 ctop;have w2e:wrap64 ((L:Int)-2)=((L-1:Nat):Int)-1:=by unfold wrap64;omega
 rw[show([]:List Value)++[.int .u8 45]++Lib.strCells (sD xt)=bv ([45]++D (L-1))from hbd.symm]at hB2;clear hbd hxg hxt hdt hgt
 go_wp2
 go_loopg [5] L (λkk s5 wr=>∃i:Nat,i+1≤L∧i≤kk∧s5=.int .i64 ((i:Int)-1)∧Lib.BuilderAt 272 5 (w.heap.size+1) (w.heap.size+1) (.pointer (some ⟨w.heap.size+1,0,none⟩)) (bv ([45]++D i)) wr ∧
  wr.heap[w.heap.size]?=some (.cells #[.bool true,.slice (some A) L cap] 28 (0,0))∧Below w.heap.size w wr∧w.heap.size+2≤wr.heap.size)
 case atStart =>
  refine⟨L-1,by omega,by omega,by congr 1;omega, ?_,q2,hW3,hs2⟩;exact hB2
 case round =>
  obtain⟨i,hi1,hi2,rfl,hBi,qi,hWi,hsi⟩:=hrel;clear hB2 q2 hW3 hs2 w2e w1;have ci:=yY qi;cases i with
  |zero =>
   clear hci hbl hdl hx;rw[hb0]at hBi
   go_wp2_with (go_at_call 290;refine(Any.Builder_String Ku Qh _ _ ([45]++D 0) _ (.inr hBi) hne).mono ?_)
   rintro e w3 ⟨rfl,hb3⟩
   go_wp2
   go_ret
   exact⟨rfl,hWi.trans (hb3.mono (by omega))⟩
  |succ i =>
   have cy:=hci wr i (by omega) hWi;have hlb:=hx i;have hbl:=hbl i (by omega);have hdl1:=hdl (i+1);have hdl0:=hdl i;have hpos:((i+1:Nat):Int)-1≥0:=by omega
   have hz:((i+1:Nat):Int)-1=(i:Int):=by omega
   have hk1:Wld.ok Tryz.prog wr:=Wld.keep hW hWi;have hsy:=tY (x i);have hdy:=zZ hlb;clear hci hdl hb0 hne h0 hx;generalize x i=y at cy hlb hbl hsy hdy;obtain⟨k,hk⟩:∃k,k+Lib.nDigits y=9:=⟨9-Lib.nDigits y,by omega⟩
   rw[show 9-Lib.nDigits y=k by omega]at hbl;have e9:(9:Int)-(Lib.nDigits y:Int)=(k:Int):=by omega
   have wi:wrap64 ((i:Int)-1)=(i:Int)-1:=by unfold wrap64;omega
   rw[hz]at hpos ⊢;clear hz
   go_wp2_with (go_at_call 289;refine(FUa (m:=y) (by omega) _ hk1).mono ?_)
   rintro e wa ⟨rfl,hba⟩;have hBa:=nN hBi hba;have hsa:w.heap.size+2≤wa.heap.size:=by have:=hba.size;omega
   have qa:wa.heap[w.heap.size]?=some (.cells #[.bool true,.slice (some A) L cap] 28 (0,0)):=by rw[hba.block _ (by omega)];exact qi
   have hWa:Below w.heap.size w wa:=hWi.trans (hba.mono (by omega));clear hBi qi ci cy hWi hsi hba hk1
   go_wp2_with (go_at_call 256;refine(adF (k:=k) (by omega) _).mono ?_)
   rintro e wb_ ⟨rfl,hbb⟩;have hBb:=nN hBa hbb;have hsb:w.heap.size+2≤wb_.heap.size:=by have:=hbb.size;omega
   have qb:wb_.heap[w.heap.size]?=some (.cells #[.bool true,.slice (some A) L cap] 28 (0,0)):=by rw[hbb.block _ (by omega)];exact qa
   have hWb:Below w.heap.size w wb_:=hWa.trans (hbb.mono (by omega));clear hBa qa hWa hsa hbb;have hrl:(ByteArray.mk (List.replicate k (48:UInt8)).toArray).size=k:=by show(List.replicate k (48:UInt8)).toArray.size=_;rw[VD,zO]
   generalize ByteArray.mk (List.replicate k (48:UInt8)).toArray=rs at hrl hbl ⊢
   go_wp2_with (go_at_call 288;refine(ws_ _ _ _ rs _ (.inr hBb) (by omega) (by omega)).mono ?_)
   rintro e wc ⟨rfl,hBc,hbc⟩;have hsc:w.heap.size+2≤wc.heap.size:=by have:=hbc.size;omega
   have qc:wc.heap[w.heap.size]?=some (.cells #[.bool true,.slice (some A) L cap] 28 (0,0)):=by rw[hbc.block _ (by omega)];exact qb
   have hWc:Below w.heap.size w wc:=hWb.trans (hbc.mono (by omega));clear hBb qb hWb hsb hbc
   go_wp2_with (go_at_call 288;refine(ws_ _ _ _ (sD y) _ (.inr hBc) (by rw[iy,Lib.strCells_length];omega) (by omega)).mono ?_)
   rintro e wd ⟨rfl,hBd,hbd⟩;rw[hbl]at hBd;have hsd:w.heap.size+2≤wd.heap.size:=by have:=hbd.size;omega
   have qd:wd.heap[w.heap.size]?=some (.cells #[.bool true,.slice (some A) L cap] 28 (0,0)):=by rw[hbd.block _ (by omega)];exact qc
   have hWd:Below w.heap.size w wd:=hWc.trans (hbd.mono (by omega));clear hBc qc hWc hsc hbd
   go_wp2
   go_roundg i
   case measure=>omega
   case rel=>exact⟨i,by omega,jE _,rfl,hBd,qd,hWd,hsd⟩
theorem aeJ(A:Option Addr)(cap:Nat)(b:Bool)(w:World):Calls Tryz.prog 255 #[.agg #[.bool b,.slice A 0 cap]] w λe w'=>e=.returned (.string ⟨#[48]⟩)∧Below w.heap.size w w':=by
 go_enter Tryz.func255,Tryz.ntmps255
 go_wp2
 go_ret
 refine⟨rfl,⟨rfl,rfl,rfl,by rw[rO];omega,λk hk=>Lib.alloc_old _ _ _ hk⟩⟩
theorem Yc{n:Int}(hp:sz n≤100000){w:World}{X:List Nat}{u:Value}(hW:Wld.ok Tryz.prog w)(hu:IntV w X u n):Calls Tryz.prog 255 #[u] w λe w'=>e=.returned (.string (uF n))∧Below w.heap.size w w':=by
 obtain⟨_,rfl,A,c,rfl,hu⟩:=hu
 by_cases h0:n=0
 ·subst h0;rw[show(0:Int).natAbs=0 from rfl,fE];have e:uF 0=⟨#[48]⟩:=by unfold uF;rw[show(0:Int).natAbs=0 from rfl,tq (by decide)];rfl
  rw[e];exact aeJ A c _ w
 ·have hn:0<(lim n.natAbs).length:=by rw[kC (by omega)];simp
  obtain⟨ad,rfl,h1,_,h3⟩:=hu.cl (by intro e;have:=congrArg List.length e;simp[us]at this;rw[this]at hn;exact absurd hn (by decide))
  have hc:∀i,i<(lim n.natAbs).length→w.cell? (ad.add i)=some (.int .u32 ((n.natAbs/1000000000^i%1000000000:Nat):Int)):=λi hi=>h3 i _ (by
   show((lim n.natAbs).map _)[i]?=_
   rw[zQ,acu hi];rfl)
  have hD0:Lib.decDigits (n.natAbs/1000000000^0)=Lib.decDigits n.natAbs:=by rw[Nat.pow_zero,Nat.div_one]
  have r0:=Sr (lim n.natAbs).length (λi=>n.natAbs/1000000000^i%1000000000) (λi=>Lib.decDigits (n.natAbs/1000000000^i)) ad c w hW h1 hc hn hp (λi=>xU _ (by decide)) (by rw[JF hn]) (λi hi=>(KF hi).symm) (λi=>Iy hn) (Py _);have r1:=Qq (lim n.natAbs).length (λi=>n.natAbs/1000000000^i%1000000000) (λi=>Lib.decDigits (n.natAbs/1000000000^i)) ad c w hW h1 hc hn hp (λi=>xU _ (by decide)) (by rw[JF hn]) (λi hi=>(KF hi).symm) (λi=>Iy hn) (Py _);rw[hD0]at r0 r1;unfold uF
  by_cases hz:n<0
  ·rw[if_pos hz,decide_eq_true hz];exact r1
  ·rw[if_neg hz,decide_eq_false hz];exact r0
instance aiE(n:Int):DenI Tryz.prog 255 [Z n] (sz n≤100000) (.c (.v (.string (uF n)))):=⟨λhp=>by
 refine Den.of ⟨by kernel_rfl,λw X vs hW hX hl hr=>?_⟩ rfl
 match vs,hl with
 |[u],_ =>
 have hu:=hr 0 u _ rfl rfl;refine Calls.mono (Yc hp hW hu.int_) ?_;rintro e w' ⟨rfl,hb⟩
 exact⟨_,rfl,(RepR.d (.c (.v _ rfl))).f,hb⟩⟩
end Go.Proofs.YtmniihkenijjpaaGreatDoor
namespace Go.Proofs.YtmniihkenijjpaaGreatDoor
open Go Go.RowKit Go.Sw
set_option maxRecDepth 100000
set_option maxHeartbeats 8000000
set_option synthInstance.maxSize 4000
set_option synthInstance.maxHeartbeats 400000
end Go.Proofs.YtmniihkenijjpaaGreatDoor
namespace Go.Proofs.YtmniihkenijjpaaGreatDoor
open Go Go.RowKit Go.Sw Go.Shelf
set_option maxRecDepth 100000
set_option maxHeartbeats 8000000
set_option synthInstance.maxSize 4000
set_option synthInstance.maxHeartbeats 400000
instance afq{f:FuncId}{xs:List AV}{pre c:Prop}{r s:AV}[h : @DenC Tryz.prog WC f xs pre c r s]:@DenC Tryz.prog CB f xs pre c r s:=⟨λhp=>⟨λhc=>o7 WC CB (λ_ _=>trivial) ((h.den hp).1 hc),λhc=>o7 WC CB (λ_ _=>trivial) ((h.den hp).2 hc)⟩⟩
end Go.Proofs.YtmniihkenijjpaaGreatDoor
namespace Go.Proofs.YtmniihkenijjpaaGreatDoor
open Go Go.RowKit Go.Sw
set_option maxRecDepth 100000
set_option maxHeartbeats 8000000
set_option synthInstance.maxSize 4000
set_option synthInstance.maxHeartbeats 400000
instance ai9(a b c d:Rat):DenI Tryz.prog 93 [Q2 a b,Q2 c d] (rz a≤1000∧rz b≤1000∧rz c≤1000∧rz d≤1000) (.bool (decide (a=c) && decide (b=d))):=⟨λhp=>by
 have i_a:RzB a 1000:=⟨hp.1⟩
 have i_b:RzB b 1000:=⟨hp.2.1⟩
 have i_c:RzB c 1000:=⟨hp.2.2.1⟩
 have i_d:RzB d 1000:=⟨hp.2.2.2⟩
 all_goals refine qp (τ:=tab) acU cO Tryz.func93 rfl (by kernel_rfl) (by kernel_rfl) (by kernel_rfl) ?_
 all_goals(repeat'((try(conv=>whnf));first
  |refine aj ?_ ?_|(with_reducible first|refine aQ ?_|refine aP ?_|refine au (λ_=>?_) (λ_=>?_))|refine Ends.mk ?_))
 all_goals(try refine Pr.mk ?_)
 all_goals(try simp only[iD]at *)
 all_goals first
  |(simp only[ac4,abj,mkA,mkB,mkC,ae1,ptC, *,true_or,or_true,if_true,if_false,or_self,and_self,and_true,true_and,and_false,false_and,not_true,not_false_iff,Lc,decide_true,decide_false,Bool.or_true,Bool.true_or,Bool.or_false,Xp];rfl)|((repeat' apply And.intro)<;>first|assumption|exact xI (by omega)|exact zf (by omega)|exact uD (aJ _) (aJ _))⟩
instance aij(a b c d:Rat):DenI Tryz.prog 123 [Q2 a b,Q2 c d] (rz a≤1000∧rz b≤1000∧rz c≤1000∧rz d≤1000) (R (lJ (a,b) (c,d))):=⟨λhp=>by
 have i_a:RzB a 1000:=⟨hp.1⟩
 have i_b:RzB b 1000:=⟨hp.2.1⟩
 have i_c:RzB c 1000:=⟨hp.2.2.1⟩
 have i_d:RzB d 1000:=⟨hp.2.2.2⟩
 all_goals refine qp (τ:=tab) acU cO Tryz.func123 rfl (by kernel_rfl) (by kernel_rfl) (by kernel_rfl) ?_
 all_goals(repeat'((try(conv=>whnf));first
  |refine aj ?_ ?_|refine Drw.mk (by kernel_rfl) ?_|refine Ends.mk ?_))
 all_goals(try refine Pr.mk ?_)
 all_goals first
  |rfl|((repeat' apply And.intro)<;>first|assumption|exact xI (by omega)|exact zf (by omega)|exact uD (aJ _) (aJ _))⟩
def FC:Tab:=(133,.row 5 [(0,1,false),(1,4,true)] [.v (.map none),.v (.bool false),.sl 1 [],.v (.bool false),.sl 1 []])::tabs
theorem lG:dN Tryz.prog FC=true:=by kernel_rfl
theorem MP{a b c d:Rat}(ha:rz a≤12)(hb:rz b≤12)(hc:rz c≤12)(hd:rz d≤12):rz (lJ (a,b) (c,d))≤10000000:=by
 have i1:RzB a 12:=⟨ha⟩
 have i2:RzB b 12:=⟨hb⟩
 have i3:RzB c 12:=⟨hc⟩
 have i4:RzB d 12:=⟨hd⟩
 show rz ((a-c)*(a-c)+(b-d)*(b-d))≤10000000;exact xI (by omega)
set_option maxHeartbeats 16000000 in
theorem aff(sq:Rat)(sp:fD)(n:Nat)(s:ByteArray)(v:P2)(hs:s.size≤1000)(ha:rz v.1≤12)(hb0:rz v.2≤12)(hq:rz sq≤1000)(hn:n≤1000000)(hsp:∀p∈bU sp s,rz p.1≤12∧rz p.2≤12)(hll:(bU sp s).length≤1000000):
 abm Tryz.prog 92 (Gy Tryz.prog 9 45 8 (KW sq sp n)) [.c (.v (.string s)),.agg (aY v)] (Gy Tryz.prog 9 45 8 (KW sq (dD sq sp s v).1 (n+1))) (.agg (aY (dD sq sp s v).2)):=by
 refine⟨by kernel_rfl, ?_⟩;intro w X g T us vs more mo hW hX hg hmore hnd hgc hmap hrep hvl hr;obtain⟨g0,es,ck⟩:=mo;obtain⟨us',rfl,hsq,hF,hes,val,og,hval,hsl,hinj⟩:=hrep;simp only at hmap hF hes hval
 match vs,hvl with
 |[u1,u2],_ =>
 have h1:=hr 0 u1 _ rfl rfl;have h2:=hr 1 u2 _ rfl rfl;obtain rfl:=h1.v
 obtain⟨us2,rfl,hv2⟩:∃us2:List Value,u2=.agg us2.toArray∧RepL w X us2 (aY v):=by
  cases h2 with
  |agg h=>exact⟨_,rfl,h⟩
 have hl2:us2.length=8:=hv2.len
 haveI:WOk Tryz.prog w:=.of hW
 obtain⟨X1,hX1⟩:∃X1:List Nat,∀x∈X1,x∈X∧x≠g∧x ∉ bl more:=⟨X.filter λx=>!(decide (x=g)) && !(decide (x∈bl more)),λx hx=>by
  obtain⟨q1,q2⟩:=Af.1 hx;simp only[eF,BR,decide_eq_false_iff_not]at q2
  exact⟨q1,q2.1,q2.2⟩⟩
 have hE1:Ext w X w X1:=Ext.drop λx hx=>(hX1 x hx).1
 have hptr:RepD w X1 (.pointer (some ⟨g,0,none⟩)) (.c (.p (.v (.map (some g0))::BH sq))):=by
  have hcl:=Cl.of_block (X:=X1) hgc (λhx=>(hX1 g hx).2.1 rfl) (Value.map (some g0)::us').length;rw[XR,Jl]at hcl;exact .c (IE hcl (.cons (.v _ rfl) (hsq.ext hE1)))
 generalize hL:bU sp s=L at hsp hll;have hfs:(KW sq sp n).f s=L.map aY:=by show(bU sp s).map aY=_;rw[hL]
 have hslot:=hsl s;rw[hfs]at hslot;have hlay:RepD w X1 (val s) (.c (.sl 8 (L.map aY))):=.c (hslot.data (λq hq=>(hmore q hq).2.2) (λx hx=>⟨(hX1 x hx).1,(hX1 x hx).2.2⟩));have hg0:g0<w.heap.size:=lt_of_heap hmap;have hgl:g<w.heap.size:=lt_of_heap hgc;have i1:RzB v.1 12:=⟨ha⟩
 have i2:RzB v.2 12:=⟨hb0⟩
 have hgd:∀i,rz (L.getD i P0).1≤12∧rz (L.getD i P0).2≤12:=λi=>by
  by_cases hi:i<L.length
  ·have:L.getD i P0=L[i]:=by simp[pz,hi]
   rw[this];exact hsp _ (DR hi)
  ·have:L.getD i P0=P0:=by simp[pz,Nat.le_of_not_lt hi]
   rw[this];decide +kernel
 have i3:RzB sq 1000:=⟨hq⟩
 refine enter (vs:=[_,_,_]) Tryz.func92 rfl rfl rfl λa hFr=>?_
 have hc:=mQ (N:=68) (w:=w) (X:=X1) (xs:=[.c (.p (.v (.map (some g0))::BH sq)),.c (.v (.string s)),.agg (aY v)]) (vs:=[.pointer (some ⟨g,0,none⟩),.string s,.agg us2.toArray]) (a:=a) (λm hm=>hX m (hX1 m hm).1) rfl (λi u y hu hv=>by
  match i,hu,hv with
  |0,hu,hv=>cases hu;cases hv;exact hptr
  |1,hu,hv=>cases hu;cases hv;exact .c (.v _ rfl)
  |2,hu,hv=>cases hu;cases hv;exact h2.ext hE1) hFr
 have hc:=Conc.keep [(0,.pointer (some ⟨g,0,none⟩))] hc (λt u h=>by
  simp only[uQ,nH]at h;obtain⟨rfl,rfl⟩:=h
  exact hFr.get 0 _ rfl)
 refine aF (aI (wp1 rfl (NJ (hFr.get 2 _ rfl)) ?_));have hc:=hc.boxF (t:=5) (T:=45) (us:=us2) (cs:=aY v) (hv2.ext hE1) (λg o h=>nomatch h) ⟨by decide,rfl⟩
 letI kp1:Kp:=⟨[(5,.pointer (some ⟨w.heap.size,0,none⟩)),(0,.pointer (some ⟨g,0,none⟩))],[(w.heap.size,.cells us2.toArray 45 (0,0))]⟩
 replace hc : @Conc kp1 wQ 68 w X1 _ _ _ _:=hc;refine wY lG (k:=λe b=>SubE [(0,.c (.p (.v (.map (some g0))::BH sq))),(1,.c (.v (.string s))),(5,.c (.p (aY v))),(6,.ptr 6 0)] e∧SubB [(6,.var [.v (.bool false),.sl 1 [],.v (.bool false),.sl 1 [],.v (.bool false),.sl 1 [],.v (.bool false),.sl 1 []])] b) ?_ (by kernel_rfl) ?_ hc
 case refine_2 =>
  all_goals(repeat'((try(conv=>whnf));first
   |refine aG ?_|refine aj ?_ ?_|refine kH ?_ (λ_=>?_) (λ_=>?_)|(with_reducible first|refine aQ ?_|refine aP ?_|refine au (λ_=>?_) (λ_=>?_)|refine cZ (λ_=>?_) (λ_=>?_))|refine OnB.mk (λ_=>?_) (λ_=>?_)|refine bI ?_ ?_|refine Drw.mk (by kernel_rfl) ?_|refine gu ?_ ?_|refine iG ?_ ?_|(with_reducible first|refine bZ ?_ ?_|refine dn ?_|refine dM ?_)|refine Ends.mk ?_))
  all_goals(try refine Pr.mk ?_)
  exact⟨⟨rfl,rfl,rfl,rfl,trivial⟩,⟨rfl,trivial⟩⟩
 rintro e b a w1 ⟨he,hb⟩ hc;replace hc:=hc.sub he hb;refine bY ?_;refine aF (eP (τ:=FC) lG cO _ (QA:=λz e b=>z=.normal∧SubE [(0,.c (.p (.v (.map (some g0))::BH sq))),(1,.c (.v (.string s))),(5,.c (.p (aY v))),(6,.ptr 6 0),(7,.int .i64 (-1))] e∧SubB [(6,.var [.v (.bool false),.sl 1 [],.v (.bool false),.sl 1 [],.v (.bool false),.sl 1 [],.v (.bool false),.sl 1 []])] b) (by kernel_rfl) ?_ hc ?_)
 case refine_1 =>
  all_goals(repeat'((try(conv=>whnf));first
   |refine aG ?_|refine aj ?_ ?_|refine kH ?_ (λ_=>?_) (λ_=>?_)|(with_reducible first|refine aQ ?_|refine aP ?_|refine au (λ_=>?_) (λ_=>?_)|refine cZ (λ_=>?_) (λ_=>?_))|refine OnB.mk (λ_=>?_) (λ_=>?_)|refine bI ?_ ?_|refine Drw.mk (by kernel_rfl) ?_|refine gu ?_ ?_|refine iG ?_ ?_|(with_reducible first|refine bZ ?_ ?_|refine dn ?_|refine dM ?_)|refine Ends.mk ?_))
  all_goals(try refine Pr.mk ?_)
  exact⟨rfl,⟨rfl,rfl,rfl,rfl,rfl,trivial⟩,⟨rfl,trivial⟩⟩
 rintro x e b a w1 ⟨rfl,he,hb⟩ hc;replace hc:=hc.sub he hb;refine bY ?_;have hF0:Frm 68 a [(0,.pointer (some ⟨g,0,none⟩)),(1,.string s)]:=(hc.frm.cons (hc.get (t:=1) rfl (by simp))).cons (hc.kp (.tail _ (.head _)));have hgw:w1.heap[g]?=some (.cells (Value.map (some g0)::us').toArray T (0,0)):=(hc.sz.2.2.block g hgl).trans hgc;refine aF (aI ?_);refine wp1 rfl (bM (hF0.ev rfl)) ?_;replace hF0:=hF0.put (d:=12) (by decide) (.pointer (some ⟨g,0,none⟩));replace hc:=hc.putA (t:=12) (u:=.pointer (some ⟨g,0,none⟩)) ⟨by decide,rfl⟩;refine wp1 rfl (PU (hF0.ev rfl)) ?_;replace hF0:=hF0.put (d:=13) (by decide) (.pointer (some ⟨g,0,none⟩));replace hc:=hc.putA (t:=13) (u:=.pointer (some ⟨g,0,none⟩)) ⟨by decide,rfl⟩;refine wp1 rfl (gX (off:=0) (by kernel_rfl) (hF0.ev rfl)) ?_;replace hF0:=hF0.put (d:=14) (by decide) (.pointer (some ⟨g,0,none⟩));replace hc:=hc.putA (t:=14) (u:=.pointer (some ⟨g,0,none⟩)) ⟨by decide,rfl⟩;refine wp1 rfl (ig (v:=.map (some g0)) (by kernel_rfl) (hF0.ev rfl) hgw rfl) ?_;replace hF0:=hF0.put (d:=15) (by decide) (.map (some g0));replace hc:=hc.putA (t:=15) (u:=.map (some g0)) ⟨by decide,rfl⟩;refine wp1 rfl (bM (hF0.ev rfl)) ?_;replace hF0:=hF0.put (d:=16) (by decide) (.string s);replace hc:=hc.putA (t:=16) (u:=.string s) ⟨by decide,rfl⟩;refine wp1 rfl (yN (g0:=g0) (k:=.string s) (v:=val s) (hF0.ev rfl) (hF0.ev rfl) (afs Tryz.underlying9 Tryz.underlying131 Tryz.zeroValue53 hF ((hc.sz.2.2.block g0 hg0).trans hmap) hval s (by unfold maxLen;omega))) ?_;replace hF0:=hF0.put (d:=17) (by decide) (val s);replace hc:=hc.putD (t:=17) (u:=val s) ⟨by decide,rfl⟩ hlay;refine wp1 rfl (jV (v:=val s) (hF0.ev rfl)) ?_;replace hF0:=hF0.put (d:=8) (by decide) (val s);replace hc:=hc.putD (t:=8) (u:=val s) ⟨by decide,rfl⟩ hlay
 have hc:=Conc.keep [(8,val s),(5,.pointer (some ⟨w.heap.size,0,none⟩)),(0,.pointer (some ⟨g,0,none⟩))] hc (λt u h=>by
  rcases rF.1 h with h|h
  ·cases h;exact hF0.get 8 _ rfl
  ·exact hc.kp h)
 letI kp2:Kp:=⟨[(8,val s),(5,.pointer (some ⟨w.heap.size,0,none⟩)),(0,.pointer (some ⟨g,0,none⟩))],[(w.heap.size,.cells us2.toArray 45 (0,0))]⟩
 replace hc : @Conc kp2 wQ 68 w X1 _ _ _ _:=hc;refine(show Exit.then _ _ .normal _ _ from bY ?_);refine aF (eP (τ:=FC) lG cO _ (QA:=λz e b=>z=.normal∧SubE [(0,.c (.p (.v (.map (some g0))::BH sq))),(1,.c (.v (.string s))),(5,.c (.p (aY v))),(6,.ptr 6 0),(7,.int .i64 (gy sq v L L.length)),(8,.c (.sl 8 (L.map aY)))] e∧SubB [(6,.var [.v (.bool false),.sl 1 [],.v (.bool false),.sl 1 [],.v (.bool false),.sl 1 [],.v (.bool false),.sl 1 []])] b) (by kernel_rfl) ?_ hc ?_)
 case refine_1 =>
  all_goals(repeat'((try(conv=>whnf));first
   |refine aG ?_|refine aj ?_ ?_|refine kH ?_ (λ_=>?_) (λ_=>?_)|(with_reducible first|refine aQ ?_|refine aP ?_|refine au (λ_=>?_) (λ_=>?_)|refine cZ (λ_=>?_) (λ_=>?_))|refine OnB.mk (λ_=>?_) (λ_=>?_)|refine bI ?_ ?_|refine Drw.mk (by kernel_rfl) ?_|refine gu ?_ ?_|refine iG ?_ ?_|(with_reducible first|refine bZ ?_ ?_|refine dn ?_|refine dM ?_)|refine Ends.mk ?_))
  all_goals(try refine Pr.mk ?_)
  all_goals first
   |((conv=>whnf);refine Sw.Loop.inv (α:=Nat) (λx=>[(0,.c (.p (.v (.map (some g0))::BH sq))),(1,.c (.v (.string s))),(5,.c (.p (aY v))),(6,.ptr 6 0),(7,.int .i64 (gy sq v L x)),(8,.c (.sl 8 (L.map aY))),(18,.c (.sl 8 (L.map aY))),(19,.int .i64 (L.length:Nat)),(20,.int .i64 x)]) (λx=>[(6,.var [.v (.bool false),.sl 1 [],.v (.bool false),.sl 1 [],.v (.bool false),.sl 1 [],.v (.bool false),.sl 1 []])]) (λx=>x≤L.length) (λx=>L.length-x) 0 ?_ ?_ ?_ (λx hx=>?_))|skip
  all_goals(repeat'((try(conv=>whnf));first
   |refine aG ?_|refine aj ?_ ?_|refine kH ?_ (λ_=>?_) (λ_=>?_)|(with_reducible first|refine aQ ?_|refine aP ?_|refine au (λ_=>?_) (λ_=>?_)|refine cZ (λ_=>?_) (λ_=>?_))|refine OnB.mk (λ_=>?_) (λ_=>?_)|refine bI ?_ ?_|refine Drw.mk (by kernel_rfl) ?_|refine gu ?_ ?_|refine iG ?_ ?_|(with_reducible first|refine bZ ?_ ?_|refine dn ?_|refine dM ?_)|refine aU P0 ?_ ?_|refine Ends.mk ?_))
  all_goals(try refine Pr.mk ?_)
  all_goals first|(show SubE _ _;repeat'(first|exact trivial|refine And.intro ?_ ?_))|(show SubB _ _;repeat'(first|exact trivial|refine And.intro ?_ ?_))|skip
  all_goals(try rfl)
  all_goals(try(simp only[aZ];rfl))
  all_goals(try(have hbo:=rW sq v L x (by omega)))
  all_goals(try simp only[aZ,gU]at *)
  all_goals(try simp only[iD]at *)
  all_goals first
   |exact rC _|omega|exact⟨dh ha (by decide),dh hb0 (by decide),dh (hgd _).1 (by decide),dh (hgd _).2 (by decide)⟩|exact⟨MP ha hb0 (hgd _).1 (hgd _).2,dh hq (by decide)⟩|exact⟨MP ha hb0 (hgd _).1 (hgd _).2,MP ha hb0 (hgd _).1 (hgd _).2⟩|((conv=>whnf);exact⟨x+1,⟨⟨rfl,rfl,rfl,rfl,(by have hb1:gy sq v L (x+1)=(x:Int):=(by first|exact if_pos ⟨by assumption,.inl (by omega)⟩|exact if_pos ⟨by assumption,.inr (by assumption)⟩);show some (AV.int IntKind.i64 ((x:Int)))=_;rw[hb1]),rfl,rfl,rfl,bQ (by omega),trivial⟩,⟨rfl,trivial⟩,by omega,(by show L.length-(x+1)<L.length-x;omega)⟩⟩)|((conv=>whnf);exact⟨x+1,⟨⟨rfl,rfl,rfl,rfl,(by have hb1:gy sq v L (x+1)=gy sq v L x:=(by first|exact if_neg (λh=>absurd h.1 (by assumption))|exact if_neg (λh=>h.2.elim (λh=>by omega) (λh=>absurd h (by assumption))));show some (AV.int IntKind.i64 (gy sq v L x))=_;rw[hb1]),rfl,rfl,rfl,bQ (by omega),trivial⟩,⟨rfl,trivial⟩,by omega,(by show L.length-(x+1)<L.length-x;omega)⟩⟩)|((conv=>whnf);rename_i hh;have hxx:x=L.length:=(by omega);subst hxx;exact⟨by first|trivial|rfl,⟨rfl,rfl,rfl,rfl,rfl,rfl,trivial⟩,⟨rfl,trivial⟩⟩)|skip
 rintro x e b a w1 ⟨rfl,he,hb⟩ hc;replace hc:=hc.sub he hb;refine bY ?_;refine aF ?_;refine aF (eP (τ:=FC) lG cO _ (QA:=λz e b=>z=.normal∧SubE [(0,.c (.p (.v (.map (some g0))::BH sq))),(1,.c (.v (.string s))),(5,.c (.p (aY v))),(6,.ptr 6 0),(7,.int .i64 (gy sq v L L.length)),(8,.c (.sl 8 (L.map aY))),(53,.bool (decide (gy sq v L L.length≥0)))] e∧SubB [(6,.var [.v (.bool false),.sl 1 [],.v (.bool false),.sl 1 [],.v (.bool false),.sl 1 [],.v (.bool false),.sl 1 []])] b) (by kernel_rfl) ?_ hc ?_)
 case refine_1 =>
  all_goals(repeat'((try(conv=>whnf));first
   |refine aG ?_|refine aj ?_ ?_|refine kH ?_ (λ_=>?_) (λ_=>?_)|(with_reducible first|refine aQ ?_|refine aP ?_|refine au (λ_=>?_) (λ_=>?_)|refine cZ (λ_=>?_) (λ_=>?_))|refine OnB.mk (λ_=>?_) (λ_=>?_)|refine bI ?_ ?_|refine Drw.mk (by kernel_rfl) ?_|refine gu ?_ ?_|refine iG ?_ ?_|(with_reducible first|refine bZ ?_ ?_|refine dn ?_|refine dM ?_)|refine Ends.mk ?_))
  all_goals(try refine Pr.mk ?_)
  exact⟨rfl,⟨rfl,rfl,rfl,rfl,rfl,rfl,rfl,trivial⟩,⟨rfl,trivial⟩⟩
 rintro x e b a w1 ⟨rfl,he,hb⟩ hc;replace hc:=hc.sub he hb;refine bY ?_;obtain⟨b1,b2,b3⟩:=rW sq v L L.length (jE _);have hk8:a.tmps.getD 8 undef=val s:=hc.kp (.head _);obtain⟨g6,T6,cs6,v6,hg6,hh6,hr6⟩:=hc.var (t:=6) (i:=6) rfl rfl;have hB:=hc.sz.2.2;have hl6:cs6.size=8:=by have:=hr6.len;simpa using this
 have hFm:Frm 68 a [(0,.pointer (some ⟨g,0,none⟩)),(1,.string s),(5,.pointer (some ⟨w.heap.size,0,none⟩)),(6,.pointer (some ⟨g6,0,none⟩)),(8,val s),(7,.int .i64 (gy sq v L L.length))] :=
  (((((hc.frm.cons (hc.get (t:=7) rfl (by simp))).cons hk8).cons v6).cons (hc.kp (.tail _ (.head _)))).cons (hc.get (t:=1) rfl (by simp))).cons (hc.kp (.tail _ (.tail _ (.head _))))
 have hg5:w1.heap[w.heap.size]?=some (.cells us2.toArray 45 (0,0)):=hc.kh (.head _);have hsz45:(Tryz.prog.info? 45).map (·.size)=some 8:=by kernel_rfl
 have hrow:isRow Tryz.prog 45 8=true:=by kernel_rfl
 obtain⟨_,hsl45,z45,hel45,_,hz45⟩:=sliceT (aT lG (t:=53) rfl);have hmo:∀q∈more,q.1∈X∧w.heap[q.1]?=some (.cells q.2.2 q.2.1 (0,0)):=λq hq=>⟨(hmore q hq).1,(hmore q hq).2.2⟩
 refine wp_cond_split (hc.get (t:=53) rfl (by simp)) (λhp=>?_) (λhp=>?_)
 case refine_1 =>
  have hbi:0≤gy sq v L L.length:=of_decide_eq_true hp;obtain⟨j,hj⟩:=Int.eq_ofNat_of_zero_le hbi;have hjl:j<L.length:=by omega
  obtain⟨gl,cap,uss,rest,hv,hogs,hmem,hrs,hcap,hle⟩:=hslot.inv (by simp;omega);have hgl':=(hmore _ hmem).2.2;have hgl4:w1.heap[gl]?=some (.cells (uss.flatten++rest).toArray 45 (0,0)):=(hB.block gl (lt_of_heap hgl')).trans hgl';have hul:uss.length=L.length:=by rw[hrs.len];simp
  have hju:j<uss.length:=by omega
  have hRj:RepL w X uss[j] (aY (L.getD j P0)):=hrs.get j _ _ (jg hju) (by simp[pz,hjl]);have hl8:(uss[j]).length=8:=hRj.len;have hfl8:(uss.flatten).length=uss.length*8:=dH hrs.sz
  have hcut:(uss.flatten++rest).toArray.extract (j*8) (j*8+8)=uss[j].toArray:=by
   apply Dv;apply XJ;intro i;simp only[Array.toList_extract,List.extract_eq_drop_take,XR];rw[Dw]
   by_cases hi:i<8
   ·rw[if_pos (by omega),KX,Nr (by omega),fP hrs.sz (jg hju) i hi]
   ·rw[if_neg (by omega),List.getElem?_eq_none (by omega)]
  have hex:j*8+8≤(uss.flatten++rest).toArray.size:=by simp only[VD,iy];omega
  rw[hj,hv,aZ]at hFm;have hst:=lK (P:=Tryz.prog) (w:=w1) (t:=45) (T:=T6) (g:=g6) (off:=0) (v:=.agg uss[j].toArray) (vs:=uss[j].toArray) (cs:=cs6) rfl (by rw[hsz45];simp[hl8]) (Ac hRj.one) hh6 (by simp[hl8,hl6]);rw[Bd (by simp[hl8,hl6])]at hst;have hgr:=jh w1 g6 uss[j].toArray;have hh6':=setRow_heap w1 g6 cs6 uss[j].toArray _ _ hh6;have hB5:Below w.heap.size w (w1.setRow g6 uss[j].toArray):=⟨hgr.os.trans hB.os,hgr.tape.trans hB.tape,hgr.output.trans hB.output,dh hB.size hgr.size,λk hk=>(hgr.block k (AX hk hB.size) (λe=>by cases e;omega)).trans (hB.block k hk)⟩
  refine aF (aI (wp1 rfl (bM (hFm.ev rfl)) ?_));replace hFm:=hFm.put (d:=54) (by decide) (.slice (some ⟨gl,0,none⟩) L.length cap);refine wp1 rfl (bM (hFm.ev rfl)) ?_;replace hFm:=hFm.put (d:=55) (by decide) (.int .i64 (j:Nat));refine wp1 rfl (Y7 hsl45 (hFm.ev rfl) (hFm.ev rfl) hjl) ?_;replace hFm:=hFm.put (d:=56) (by decide) (.pointer (some ⟨gl,j*8,none⟩));refine wp1 rfl (RG hrow (hFm.ev rfl) hgl4 hex) ?_;rw[hcut];replace hFm:=hFm.put (d:=57) (by decide) (.agg uss[j].toArray);refine aaT rfl (I7 (hFm.ev rfl) (hFm.ev rfl) hst) ?_;refine(show Exit.then _ _ .normal _ _ from bY (xq (Ry ?_)));refine OE rfl hFm.defers (IK hFm rfl hrow hh6' (by simp[hl8])) ⟨_,rfl, ?_⟩;obtain⟨e1,e2⟩:=aa9 (sq:=sq) (sp:=sp) (s:=s) (v:=v) (n:=n+1) (by rw[hL];exact hbi);rw[e1,e2,hL,hj];exact agF (st:=KW sq sp n) hB5 hmo hnd hmap ⟨us',rfl,hsq,hF,hes,val,og,hval,hsl,hinj⟩ (Nat.le_succ n) (.d (.agg hRj))
 case refine_2 =>
  have hbi:gy sq v L L.length<0:=by have:=of_decide_eq_false hp;omega
  refine fM (bY ?_);obtain⟨uss,hrs,hown,hob⟩:=hslot.row (λq hq=>(hmore q hq).2.2);rw[aZ]at hown
  have hogm:∀i,og s=some i→i<w.heap.size:=λi hi=>by
   have h6:=hslot;rw[hi]at h6;generalize val s=vx at h6;generalize L.map aY=fx at h6;cases h6 with
   |some hm hr hc hx hn h0=>exact lt_of_heap (hmore _ hm).2.2
  have hF0:Frm 68 a [(0,.pointer (some ⟨g,0,none⟩)),(1,.string s),(5,.pointer (some ⟨w.heap.size,0,none⟩)),(6,.pointer (some ⟨g6,0,none⟩)),(8,val s)] :=
   ((((hc.frm.cons hk8).cons v6).cons (hc.kp (.tail _ (.head _)))).cons (hc.get (t:=1) rfl (by simp))).cons (hc.kp (.tail _ (.tail _ (.head _))))
  have hBd:Below w.heap.size w w1.drew:=hB.drew;have hg0w:w1.drew.heap[g]?=some (.cells (Value.map (some g0)::us').toArray T (0,0)):=(hBd.block g hgl).trans hgc;have hBa:Below w.heap.size w (w1.drew.alloc (.cells us2.toArray 45)):=hBd.alloc hBd.size _;have hkeepA:∀i,i<w1.heap.size→(w1.drew.alloc (.cells us2.toArray 45)).heap[i]?=w1.heap[i]?:=λi hi=>Below.heap_alloc w1.drew _ i hi
  have hnewA:(w1.drew.alloc (.cells us2.toArray 45)).heap[w1.heap.size]?=some (.cells us2.toArray 45 (0,0)):=heap_alloc_new w1.drew _;have hszA:(w1.drew.alloc (.cells us2.toArray 45)).heap.size=w1.heap.size+1:=by simp
  obtain⟨v',w2,r1,r2,r3,r4,r5,r6⟩:=PL (P:=Tryz.prog) (ty:=53) (w:=w1.drew.alloc (.cells us2.toArray 45)) (base:=0) (by decide) hsl45 hel45 hz45 (Ib hown (λi hi=>hBa.block i hi)) (A:=some ⟨w1.heap.size,0,none⟩) (m:=1) (c:=1) (news:=us2) (by rw[hl2]) (λad had i u hu=>by
   cases had;rw[Addr.add_lit,cell_of_row _ _ _ _ _ _ hnewA]
   simpa using hu) (λh=>by cases h) hv2.one (by omega) (rC _)
  have hE6:Ext w X w (g6::X):=(Ext.refl w X).add hg6
  obtain⟨w3,mo',more',j1,j2,j3,j4,j5,j6,j7,j8⟩:=agB (P:=Tryz.prog) (mT:=131) (kT:=9) (sT:=53) (T:=45) (s:=8) (st:=KW sq sp n) (w:=w) (X:=g6::X) (v':=v') (vs:=us2) (vC:=aY v) (uss:=uss) Tryz.underlying9 Tryz.underlying131 (by decide) rfl (hsq.ext hE6) hF hes (show n<maxLen by unfold maxLen;omega) hval (λk=>(hsl k).ext hE6) hinj
   (λq hq=>⟨JX _ (hmore q hq).1,(hmore q hq).2.2⟩) hnd hmap (k:=s) (by unfold maxLen;omega) (hv2.ext hE6) hl2 (by rw[hfs];exact hrs.ext hE6) hBa (by rw[hfs,aZ];exact r2) r3 r4 hob
  have hgb:(val s).ownBlock≠some g:=λe=>by
   rw[hob]at e;have h6:=hslot;rw[e]at h6;generalize val s=vx at h6;generalize L.map aY=fx at h6;cases h6 with
   |some hm hr hc hx hn h0=>exact(hmore _ hm).2.1 rfl
  have hg2:w2.heap[g]?=some (.cells (Value.map (some g0)::us').toArray T (0,0)):=(r3.block g (AX hgl hBa.size) (λe=>hgb e.symm)).trans ((hBa.block g hgl).trans hgc)
  refine aF (KU (N:=68) (L0:=[(0,.pointer (some ⟨g,0,none⟩)),(1,.string s),(5,.pointer (some ⟨w.heap.size,0,none⟩)),(6,.pointer (some ⟨g6,0,none⟩)),(8,val s)]) (L1:=[]) [7,8,9] [0,1,2,4,5] [[3,6],[3],[3],[]]
   [(0,.pointer (some ⟨g,0,none⟩)),(1,.pointer (some ⟨g,0,none⟩)),(2,.pointer (some ⟨g,0,none⟩)),(3,.map (some g0)),(4,.string s),(5,val s),(6,.agg us2.toArray)] cO (by kernel_rfl) (by kernel_rfl) (by kernel_rfl) (by kernel_rfl) (by kernel_rfl) hF0 hc.frm ⟨?_, ?_, ?_, ?_, ?_,trivial⟩ ?_)
  ·exact⟨_,_,_,rfl,rfl,rfl,λa w hF hb K hK=>bD rfl rfl rfl (bM (hF.get 0 _ rfl)) hK⟩
  ·exact⟨_,_,_,rfl,rfl,rfl,λa w hF hb K hK=>bD rfl rfl rfl (PU (hb _ rfl 0 _ 58 _ rfl rfl rfl rfl rfl)) hK⟩
  ·exact⟨_,_,_,rfl,rfl,rfl,λa w hF hb K hK=>bD rfl rfl rfl (gX (off:=0) (by kernel_rfl) (hb _ rfl 1 _ 59 _ rfl rfl rfl rfl rfl)) hK⟩
  ·exact⟨_,_,_,rfl,rfl,rfl,λa w hF hb K hK=>bD rfl rfl rfl (bM (hF.get 1 _ rfl)) hK⟩
  ·exact⟨_,_,_,rfl,rfl,rfl,λa w hF hb K hK=>bD rfl rfl rfl (bM (hF.get 8 _ rfl)) hK⟩
  refine⟨⟨?_, ?_,trivial⟩,_,rfl,λa hF hF1 hb=>PI rfl rfl rfl (YS hsl45 hel45 hz45 (hb _ rfl 6 _ 64 _ rfl rfl rfl rfl rfl) (by simp[hl2])) ⟨_,_,rfl,λ_ _ h=>h, ?_⟩⟩
  ·exact⟨_,_,_,rfl,rfl,rfl,λa hF hF1 hb K hK=>bD rfl rfl rfl (ig (v:=.map (some g0)) (by kernel_rfl) (hb _ rfl 2 _ 60 _ rfl rfl rfl rfl rfl) hg0w rfl) hK⟩
  ·exact⟨_,_,_,rfl,rfl,rfl,λa hF hF1 hb K hK=>bD rfl rfl rfl (sQ hrow (hF.get 5 _ rfl) hg5 (by simp[hl2])) hK⟩
  refine⟨⟨?_,trivial⟩,_,rfl,λa hF hF1 hb=>PI rfl rfl rfl (Ro (hb _ rfl 5 _ 63 _ rfl rfl rfl rfl rfl) (hF1.get 65 _ rfl) r1) ⟨_,_,rfl,λ_ _ h=>h, ?_⟩⟩
  ·exact⟨_,_,_,rfl,rfl,rfl,λa hF hF1 hb K hK=>bD rfl rfl rfl (ig (v:=.map (some g0)) (by kernel_rfl) (hb _ rfl 2 _ 60 _ rfl rfl rfl rfl rfl) ((hBa.block g hgl).trans hgc) rfl) hK⟩
  refine⟨⟨?_,trivial⟩,_,rfl,λa hF hF1 hb=>TA rfl rfl rfl (xH (hb _ rfl 3 _ 61 _ rfl rfl rfl rfl rfl) (hb _ rfl 4 _ 62 _ rfl rfl rfl rfl rfl) (hF1.get 66 _ rfl) j1) ⟨undef,_,rfl,λ_ _ h=>h, ?_⟩⟩
  ·exact⟨_,_,_,rfl,rfl,rfl,λa hF hF1 hb K hK=>bD rfl rfl rfl (ig (v:=.map (some g0)) (by kernel_rfl) (hb _ rfl 2 _ 60 _ rfl rfl rfl rfl rfl) hg2 rfl) hK⟩
  refine⟨trivial,λa hF hF1 hC=>bY ?_⟩;clear hC hF1;have hlt5:w.heap.size<w1.heap.size:=lt_of_heap hg5;have hlt6:g6<w1.heap.size:=lt_of_heap hh6;have k5:w3.heap[w.heap.size]?=some (.cells us2.toArray 45 (0,0)):=(j7 _ (by omega) (by omega) (λe=>by have:=hogm _ e;omega)).trans ((hkeepA _ hlt5).trans hg5);have k6:w3.heap[g6]?=some (.cells cs6 T6 (0,0)):=(j7 _ (by omega) (by omega) (λe=>by have:=hogm _ e;omega)).trans ((hkeepA _ hlt6).trans hh6);have hst:=lK (P:=Tryz.prog) (w:=w3) (t:=45) (T:=T6) (g:=g6) (off:=0) (v:=.agg us2.toArray) (vs:=us2.toArray) (cs:=cs6) rfl (by rw[hsz45];simp[hl2]) (Ac hv2.one) k6 (by simp[hl2,hl6]);rw[Bd (by simp[hl2,hl6])]at hst;have hgr:=jh w3 g6 us2.toArray;have hh6':=setRow_heap w3 g6 cs6 us2.toArray _ _ k6;refine aF (aI (wp1 rfl (sQ hrow (hF.ev rfl) k5 (by simp[hl2])) ?_));replace hF:=hF.put (d:=67) (by decide) (.agg us2.toArray);refine aaT rfl (I7 (hF.ev rfl) (hF.ev rfl) hst) ?_;refine(show Exit.then _ _ .normal _ _ from bY (xq ?_));refine OE rfl hF.defers (IK hF rfl hrow hh6' (by simp[hl2])) ⟨_,rfl, ?_⟩;obtain⟨e1,e2⟩:=agz (sq:=sq) (sp:=sp) (s:=s) (v:=v) (n:=n) (by rw[hL];exact hbi);rw[e1,e2];obtain⟨o1,o2,o3,o4,o5⟩:=j6
  have hmX:∀i,i∈bl more→i∈X∧i<w.heap.size:=λi hi=>by
   obtain⟨q,hq,rfl⟩:=fV.1 hi;exact⟨(hmore q hq).1,lt_of_heap (hmore q hq).2.2⟩
  have hq6:∀q∈more',q.1≠g6:=λq hq e=>by
   rcases(j4 q hq).1 with h|h
   ·have:=(hmX _ h).2;omega
   ·omega
  have hs5:w.heap.size≤(w3.setRow g6 us2.toArray).heap.size:=dh o4 hgr.size;have h5k:∀i,i<w.heap.size→i≠g0→i ∉ bl more→(w3.setRow g6 us2.toArray).heap[i]?=w.heap[i]?:=λi hi h1 h2=>(hgr.block i (AX hi o4) (λe=>by cases e;omega)).trans (o5 i hi h1 h2)
  have hE5:Ext w X (w3.setRow g6 us2.toArray) (bl more'++X):=⟨hs5,λi hi hx hnm=>⟨h5k i hi (λe=>hnm _ _ (e▸hmap)) (λh=>hx (hmX i h).1),λhm=>by
   rcases l9.1 hm with hm|hm
   ·obtain⟨q,hq,rfl⟩:=fV.1 hm;rcases(j4 q hq).1 with h|h
    ·exact hx (hmX _ h).1
    ·omega
   ·exact hx hm⟩⟩
  have hE3:Ext w3 (bl more'++(g6::X)) (w3.setRow g6 us2.toArray) (bl more'++X):=(Ext.write hgr (by simp)).trans (Ext.drop λx hx=>by
   rcases l9.1 hx with hx|hx
   ·exact xW _ hx
   ·exact qC _ (JX _ hx))
  refine⟨more',mo',j2,(hgr.block g0 (lt_of_heap j3) (λe=>by cases e;omega)).trans j3,λq hq=>⟨?_,(hgr.block q.1 (lt_of_heap (j4 q hq).2) (λe=>hq6 q hq (by injection e))).trans (j4 q hq).2⟩,j5,⟨hgr.os.trans o1,hgr.tape.trans o2,hgr.output.trans o3,hs5,h5k⟩,.d (.agg (hv2.ext hE5)),(Gy Tryz.prog 9 45 8 _).ext j8 hE3⟩;rcases(j4 q hq).1 with h|h
  ·exact .inl h
  ·right;omega
end Go.Proofs.YtmniihkenijjpaaGreatDoor
namespace Go.Proofs.YtmniihkenijjpaaGreatDoor
open Go Go.RowKit Go.Sw Go.Shelf
set_option maxRecDepth 100000
set_option maxHeartbeats 8000000
set_option synthInstance.maxSize 4000
set_option synthInstance.maxHeartbeats 400000
def SE:Tab:=(2000000000,.flag)::FC
theorem uh:dN Tryz.prog SE=true:=by kernel_rfl
def acT:Go.Shelf.Ren:=⟨λn=>if n=41 then 31 else n,λn=>if n=22 then 53 else if n=23 then 45 else n,id⟩
theorem acI:Go.Proofs.SlLaysE0.n41 Tryz.prog acT where
 mixed:=cO
 f41:=⟨ "slices.Clone[[]swarf/api.Vec,swarf/api.Vec]",by decide,zF Tryz.func31 (congrArg some (Eq.refl _))⟩
 t4:=Tryz.underlying4
 a4:=Tryz.isAgg4
 z4:=Tryz.sizeOf4
 v4:=Tryz.zeroValue4
 t22:=Tryz.underlying53
 a22:=Tryz.isAgg53
 z22:=Tryz.sizeOf53
 v22:=Tryz.zeroValue53
theorem Y3:∃i0,Tryz.prog.info? 45=some i0∧i0.zero=some (.agg #[.bool false,.slice none 0 0,.bool false,.slice none 0 0,.bool false,.slice none 0 0,.bool false,.slice none 0 0])∧i0.size=8∧i0.bytes=128:=info_parts (by kernel_rfl)
instance aib(es:List (List Cell)):DenI Tryz.prog 31 [.c (.sl 8 es)] (es.length≤1000000) (.own 45 8 es):=⟨λhp=>by
 obtain⟨i0,h1,h2,h3,h4⟩:=Y3
 exact DI acI (by kernel_rfl) i0 _ h1 h2 h3 (by omega) rfl (by decide) Tryz.sizeOf45 hp⟩
instance afT(e:Ent):DenI Tryz.prog 30 [.agg (aK e)] (e.pts.length≤1000000) (Di e):=⟨λhp=>by
 refine qp (τ:=FC) lG cO Tryz.func30 rfl (by kernel_rfl) (by kernel_rfl) (by kernel_rfl) ?_
 all_goals(repeat'((try(conv=>whnf));first
  |(with_reducible first|refine aQ ?_|refine aP ?_|refine au (λ_=>?_) (λ_=>?_))|refine Drw.mk (by kernel_rfl) ?_|refine aU P0 ?_ ?_|refine Ends.mk ?_))
 all_goals(try refine Pr.mk ?_)
 all_goals(try simp only[aZ]at *)
 all_goals(try simp(disch:=omega) only[bP]at *)
 all_goals first
  |(exfalso;omega)|exact JE (by omega) rfl (by omega)|exact PK (by omega)|omega⟩
instance(priority:=3000) ng(e:Ent):DenI Tryz.prog 30 [.agg (aK e)] (e.pts.length≤1000000) (.tup [.c (.sl 8 ((bH e).map aY)),.bool (decide (bH e≠[]))]):=⟨λhp=>UN rfl (by by_cases h:bH e=[]<;>simp [h]) ((inferInstance:DenI Tryz.prog 30 [.agg (aK e)] _ (Di e)).den hp)⟩
instance af0(e:Ent)(l:List P2):DenI Tryz.prog 94 [.agg (aK e),.c (.sl 8 (l.map aY))] (e.pts.length≤1000000∧l.length=(bH e).length) (.agg (aK (gW e l))):=⟨λhp=>by
 obtain⟨hp1,hp2⟩:=hp;have hsh:=Jd e
 all_goals refine qp (τ:=SE) uh cO Tryz.func94 rfl (by kernel_rfl) (by kernel_rfl) (by kernel_rfl) ?_
 all_goals(repeat'((try(conv=>whnf));first
  |refine aj ?_ ?_|(with_reducible refine au (λ_=>?_) (λ_=>?_))|refine bI ?_ ?_|refine Drw.mk (by kernel_rfl) ?_|refine IV P0 _ ?_ ?_|refine aU P0 ?_ ?_|refine Ends.mk ?_))
 all_goals(try refine Pr.mk ?_)
 all_goals(try simp only[aZ]at *)
 all_goals(try simp(disch:=omega) only[bP]at *)
 all_goals first
  |omega|(simp only[NC,aZ])|exact SI (by omega) hp2 (by omega)|exact Tc (by assumption) hp2⟩
instance adO(e:Ent):DenI Tryz.prog 94 [.agg (aK e),.c (.sl 0 [])] (e.pts.length≤1000000) (.agg (aK e)):=⟨λhp=>by
 refine qp (τ:=SE) uh cO Tryz.func94 rfl (by kernel_rfl) (by kernel_rfl) (by kernel_rfl) ?_
 all_goals(repeat'((try(conv=>whnf));first
  |refine aj ?_ ?_|(with_reducible refine au (λ_=>?_) (λ_=>?_))|refine bI ?_ ?_|refine Ends.mk ?_))
 all_goals(try refine Pr.mk ?_)
 all_goals(try simp only[aZ]at *)
 all_goals first
  |omega|rfl|(exfalso;simp at *;done)⟩
instance aio(l:ByteArray)(a b:P2)(r:Rq):DenI Tryz.prog 30 [.agg [.v (.int .i64 1),.v (.string l),.sl 8 [aY a,aY b],.v (.bool r.a),aV r.l,.v (.bool r.b),aV r.m]] True (.tup [.c (.sl 8 [aY a,aY b]),.bool true]):=⟨λ_=>by
 have h:=(ng ⟨1,l,[a,b],r⟩).den (by show _≤1000000;simp);simp only[bH]at h
 exact h⟩
instance aie(l:ByteArray)(a m b:P2)(r:Rq):DenI Tryz.prog 30 [.agg [.v (.int .i64 2),.v (.string l),.sl 8 [aY a,aY m,aY b],.v (.bool r.a),aV r.l,.v (.bool r.b),aV r.m]] True (.tup [.c (.sl 8 [aY a,aY b]),.bool true]):=⟨λ_=>by
 have h:=(ng ⟨2,l,[a,m,b],r⟩).den (by show _≤1000000;simp);simp only[bH]at h
 exact h⟩
instance aiF(l:ByteArray)(a:P2)(q:Rat):DenI Tryz.prog 30 [.agg [.v (.int .i64 3),.v (.string l),.sl 8 [aY a],zs q.num,zl q.num,zs q.den,zl q.den]] True (.tup [.c (.sl 8 []),.bool false]):=⟨λ_=>by
 have h:=(ng ⟨3,l,[a],nD q⟩).den (by show _≤1000000;simp);simp only[bH]at h
 exact h⟩
instance aeC(l:ByteArray)(a m b:P2)(r:Rq):DenI Tryz.prog 95 [.agg [.v (.int .i64 2),.v (.string l),.sl 8 [aY a,aY m,aY b],.v (.bool r.a),aV r.l,.v (.bool r.b),aV r.m]] (dB a∧dB m∧dB b) (.bool (decide (qm a m b=0))):=⟨λhp=>by
 obtain⟨g1,g2,g3⟩:=hp
 all_goals refine qp (τ:=tab) acU cO Tryz.func95 rfl (by kernel_rfl) (by kernel_rfl) (by kernel_rfl) ?_
 all_goals(repeat'((try(conv=>whnf));first
  |refine kH ?_ (λ_=>?_) (λ_=>?_)|refine Drw.mk (by kernel_rfl) ?_|(with_reducible first|refine dn ?_|refine dM ?_|refine Uz ?_)|refine Ends.mk ?_))
 all_goals(try refine Pr.mk ?_)
 all_goals(try simp only[iD]at *)
 all_goals first
  |exact bE (decide_eq_true (by assumption)).symm|exact bE (decide_eq_false (by assumption)).symm|exact⟨dh g1.1 (by decide),dh g1.2 (by decide),dh g2.1 (by decide),dh g2.2 (by decide),dh g3.1 (by decide),dh g3.2 (by decide)⟩⟩
instance ai8(l1 l2:ByteArray)(a m b c n d:P2)(r1 r2:Rq):DenI Tryz.prog 126 [.agg [.v (.int .i64 2),.v (.string l1),.sl 8 [aY a,aY m,aY b],.v (.bool r1.a),aV r1.l,.v (.bool r1.b),aV r1.m],.agg [.v (.int .i64 2),.v (.string l2),.sl 8 [aY c,aY n,aY d],.v (.bool r2.a),aV r2.l,.v (.bool r2.b),aV r2.m]] (dB c∧dB n∧dB d∧dB m) (.bool (XK c n d m)):=⟨λhp=>by
 obtain⟨g1,g2,g3,g4⟩:=hp
 all_goals refine qp (τ:=tab) acU cO Tryz.func126 rfl (by kernel_rfl) (by kernel_rfl) (by kernel_rfl) ?_
 all_goals(repeat'((try(conv=>whnf));first
  |refine aj ?_ ?_|refine kH ?_ (λ_=>?_) (λ_=>?_)|(with_reducible first|refine aQ ?_|refine aP ?_|refine au (λ_=>?_) (λ_=>?_))|refine Drw.mk (by kernel_rfl) ?_|(with_reducible first|refine dn ?_|refine dM ?_|refine Uz ?_)|refine Ends.mk ?_))
 all_goals(try refine Pr.mk ?_)
 all_goals(try simp only[iD]at *)
 all_goals first
  |(exfalso;rename ¬True=>h;exact h trivial)|(exfalso;omega)|exact bE (Zz (a:=c) (b:=n) (c:=d) (p:=m) (by assumption))|exact bE (acJ (a:=c) (b:=n) (c:=d) (p:=m) (by assumption)).symm|exact⟨(Le g1 g2 g3).1,(Le g1 g2 g3).2.1,(Le g1 g2 g3).2.2,g1.1,g1.2,g3.1,g3.2,g4.1,g4.2⟩|exact⟨dh g1.1 (by decide),dh g1.2 (by decide),dh g2.1 (by decide),dh g2.2 (by decide),dh g3.1 (by decide),dh g3.2 (by decide)⟩|exact⟨dh g4.1 (by decide),dh g4.2 (by decide)⟩⟩
instance adZ(l1 l2:ByteArray)(a b c d:P2)(r1:Rq)(r2:Rq):DenI Tryz.prog 96 [.agg [.v (.int .i64 1),.v (.string l1),.sl 8 [aY a,aY b],.v (.bool r1.a),aV r1.l,.v (.bool r1.b),aV r1.m],.agg [.v (.int .i64 1),.v (.string l2),.sl 8 [aY c,aY d],.v (.bool r2.a),aV r2.l,.v (.bool r2.b),aV r2.m]] (dB a∧dB b∧dB c∧dB d) (.bool (iZ ⟨1,l1,[a,b],r1⟩ ⟨1,l2,[c,d],r2⟩)):=⟨λhp=>by
 obtain⟨g1,g2,g3,g4⟩:=hp
 all_goals refine qp (τ:=tab) acU cO Tryz.func96 rfl (by kernel_rfl) (by kernel_rfl) (by kernel_rfl) ?_
 all_goals(repeat'((try(conv=>whnf));first
  |refine aG ?_|refine aj ?_ ?_|(with_reducible first|refine aQ ?_|refine aP ?_|refine au (λ_=>?_) (λ_=>?_)|refine cZ (λ_=>?_) (λ_=>?_))|refine OnB.mk (λ_=>?_) (λ_=>?_)|refine Drw.mk (by kernel_rfl) ?_|(with_reducible first|refine dn ?_|refine dM ?_)|refine Ends.mk ?_))
 all_goals(try refine Pr.mk ?_)
 all_goals(try simp only[iD]at *)
 all_goals first
  |(exfalso;rename ¬True=>h;exact h trivial)|(exfalso;omega)|exact⟨dh g1.1 (by decide),dh g1.2 (by decide),dh g3.1 (by decide),dh g3.2 (by decide)⟩|exact⟨dh g2.1 (by decide),dh g2.2 (by decide),dh g4.1 (by decide),dh g4.2 (by decide)⟩|exact⟨dh g1.1 (by decide),dh g1.2 (by decide),dh g4.1 (by decide),dh g4.2 (by decide)⟩|exact⟨dh g2.1 (by decide),dh g2.2 (by decide),dh g3.1 (by decide),dh g3.2 (by decide)⟩|trivial|(refine bE ?_;rw[UA];simp only[BR,Bool.not_eq_false']at *;simp only[pE, *,Bool.and_true,XG,Bool.and_false,Bool.false_and,Bool.or_false,Xp,Bool.or_true,Bool.true_or,decide_true,decide_false,if_true,if_false,Lc,Bool.not_true,Bool.not_false,beq_self_eq_true];done)⟩
instance afF(l1 l2:ByteArray)(a b c n d:P2)(r1:Rq)(r2:Rq):DenI Tryz.prog 96 [.agg [.v (.int .i64 1),.v (.string l1),.sl 8 [aY a,aY b],.v (.bool r1.a),aV r1.l,.v (.bool r1.b),aV r1.m],.agg [.v (.int .i64 2),.v (.string l2),.sl 8 [aY c,aY n,aY d],.v (.bool r2.a),aV r2.l,.v (.bool r2.b),aV r2.m]] (dB a∧dB b∧dB c∧dB n∧dB d) (.bool (iZ ⟨1,l1,[a,b],r1⟩ ⟨2,l2,[c,n,d],r2⟩)):=⟨λhp=>by
 obtain⟨g1,g2,g3,g4,g5⟩:=hp
 all_goals refine qp (τ:=tab) acU cO Tryz.func96 rfl (by kernel_rfl) (by kernel_rfl) (by kernel_rfl) ?_
 all_goals(repeat'((try(conv=>whnf));first
  |refine aG ?_|refine aj ?_ ?_|(with_reducible first|refine aQ ?_|refine aP ?_|refine au (λ_=>?_) (λ_=>?_)|refine cZ (λ_=>?_) (λ_=>?_))|refine OnB.mk (λ_=>?_) (λ_=>?_)|refine Drw.mk (by kernel_rfl) ?_|(with_reducible first|refine dn ?_|refine dM ?_)|refine Ends.mk ?_))
 all_goals(try refine Pr.mk ?_)
 all_goals(try simp only[iD]at *)
 all_goals first
  |(exfalso;rename ¬True=>h;exact h trivial)|(exfalso;omega)|(refine bE ?_;rw[uq (by show¬((1:Int)=2);decide)];done)⟩
instance afO(l1 l2:ByteArray)(a b c:P2)(r1:Rq)(q2:Rat):DenI Tryz.prog 96 [.agg [.v (.int .i64 1),.v (.string l1),.sl 8 [aY a,aY b],.v (.bool r1.a),aV r1.l,.v (.bool r1.b),aV r1.m],.agg [.v (.int .i64 3),.v (.string l2),.sl 8 [aY c],zs q2.num,zl q2.num,zs q2.den,zl q2.den]] (dB a∧dB b∧dB c∧rz q2≤12) (.bool (iZ ⟨1,l1,[a,b],r1⟩ ⟨3,l2,[c],nD q2⟩)):=⟨λhp=>by
 obtain⟨g1,g2,g3,g4⟩:=hp
 all_goals refine qp (τ:=tab) acU cO Tryz.func96 rfl (by kernel_rfl) (by kernel_rfl) (by kernel_rfl) ?_
 all_goals(repeat'((try(conv=>whnf));first
  |refine aG ?_|refine aj ?_ ?_|(with_reducible first|refine aQ ?_|refine aP ?_|refine au (λ_=>?_) (λ_=>?_)|refine cZ (λ_=>?_) (λ_=>?_))|refine OnB.mk (λ_=>?_) (λ_=>?_)|refine Drw.mk (by kernel_rfl) ?_|(with_reducible refine dn ?_)|refine Ends.mk ?_))
 all_goals(try refine Pr.mk ?_)
 all_goals(try simp only[iD]at *)
 all_goals first
  |(exfalso;omega)|(refine bE ?_;rw[uq (by show¬((1:Int)=3);decide)];done)⟩
instance ad3(l1 l2:ByteArray)(a m b c d:P2)(r1:Rq)(r2:Rq):DenI Tryz.prog 96 [.agg [.v (.int .i64 2),.v (.string l1),.sl 8 [aY a,aY m,aY b],.v (.bool r1.a),aV r1.l,.v (.bool r1.b),aV r1.m],.agg [.v (.int .i64 1),.v (.string l2),.sl 8 [aY c,aY d],.v (.bool r2.a),aV r2.l,.v (.bool r2.b),aV r2.m]] (dB a∧dB m∧dB b∧dB c∧dB d) (.bool (iZ ⟨2,l1,[a,m,b],r1⟩ ⟨1,l2,[c,d],r2⟩)):=⟨λhp=>by
 obtain⟨g1,g2,g3,g4,g5⟩:=hp
 all_goals refine qp (τ:=tab) acU cO Tryz.func96 rfl (by kernel_rfl) (by kernel_rfl) (by kernel_rfl) ?_
 all_goals(repeat'((try(conv=>whnf));first
  |refine aG ?_|refine aj ?_ ?_|(with_reducible first|refine aQ ?_|refine aP ?_|refine au (λ_=>?_) (λ_=>?_)|refine cZ (λ_=>?_) (λ_=>?_))|refine OnB.mk (λ_=>?_) (λ_=>?_)|refine Drw.mk (by kernel_rfl) ?_|(with_reducible first|refine dn ?_|refine dM ?_)|refine Ends.mk ?_))
 all_goals(try refine Pr.mk ?_)
 all_goals(try simp only[iD]at *)
 all_goals first
  |(exfalso;omega)|(refine bE ?_;rw[uq (by show¬((2:Int)=1);decide)];done)⟩
instance adE(l1 l2:ByteArray)(a m b c n d:P2)(r1:Rq)(r2:Rq):DenI Tryz.prog 96 [.agg [.v (.int .i64 2),.v (.string l1),.sl 8 [aY a,aY m,aY b],.v (.bool r1.a),aV r1.l,.v (.bool r1.b),aV r1.m],.agg [.v (.int .i64 2),.v (.string l2),.sl 8 [aY c,aY n,aY d],.v (.bool r2.a),aV r2.l,.v (.bool r2.b),aV r2.m]] (dB a∧dB m∧dB b∧dB c∧dB n∧dB d) (.bool (iZ ⟨2,l1,[a,m,b],r1⟩ ⟨2,l2,[c,n,d],r2⟩)):=⟨λhp=>by
 obtain⟨g1,g2,g3,g4,g5,g6⟩:=hp
 all_goals refine qp (τ:=tab) acU cO Tryz.func96 rfl (by kernel_rfl) (by kernel_rfl) (by kernel_rfl) ?_
 all_goals(repeat'((try(conv=>whnf));first
  |refine aG ?_|refine aj ?_ ?_|(with_reducible first|refine aQ ?_|refine aP ?_|refine au (λ_=>?_) (λ_=>?_)|refine cZ (λ_=>?_) (λ_=>?_))|refine OnB.mk (λ_=>?_) (λ_=>?_)|refine Drw.mk (by kernel_rfl) ?_|(with_reducible first|refine dn ?_|refine dM ?_)|refine Ends.mk ?_))
 all_goals(try refine Pr.mk ?_)
 all_goals(try simp only[iD]at *)
 all_goals first
  |(exfalso;rename ¬True=>h;exact h trivial)|(exfalso;omega)|exact⟨dh g1.1 (by decide),dh g1.2 (by decide),dh g4.1 (by decide),dh g4.2 (by decide)⟩|exact⟨dh g3.1 (by decide),dh g3.2 (by decide),dh g6.1 (by decide),dh g6.2 (by decide)⟩|exact⟨dh g1.1 (by decide),dh g1.2 (by decide),dh g6.1 (by decide),dh g6.2 (by decide)⟩|exact⟨dh g3.1 (by decide),dh g3.2 (by decide),dh g4.1 (by decide),dh g4.2 (by decide)⟩|exact⟨dh g2.1 (by decide),dh g2.2 (by decide),dh g5.1 (by decide),dh g5.2 (by decide)⟩|exact⟨g1,g2,g3⟩|exact⟨g4,g5,g6⟩|exact⟨g4,g5,g6,g2⟩|exact⟨g1,g2,g3,g5⟩|trivial|(refine bE ?_;rw[Vh];simp only[BR,Bool.not_eq_false']at *;simp only[pE, *,Bool.and_true,XG,Bool.and_false,Bool.false_and,Bool.or_false,Xp,Bool.or_true,Bool.true_or,decide_true,decide_false,if_true,if_false,Lc,Bool.not_true,Bool.not_false,beq_self_eq_true];done)⟩
instance aeT(l1 l2:ByteArray)(a m b c:P2)(r1:Rq)(q2:Rat):DenI Tryz.prog 96 [.agg [.v (.int .i64 2),.v (.string l1),.sl 8 [aY a,aY m,aY b],.v (.bool r1.a),aV r1.l,.v (.bool r1.b),aV r1.m],.agg [.v (.int .i64 3),.v (.string l2),.sl 8 [aY c],zs q2.num,zl q2.num,zs q2.den,zl q2.den]] (dB a∧dB m∧dB b∧dB c∧rz q2≤12) (.bool (iZ ⟨2,l1,[a,m,b],r1⟩ ⟨3,l2,[c],nD q2⟩)):=⟨λhp=>by
 obtain⟨g1,g2,g3,g4,g5⟩:=hp
 all_goals refine qp (τ:=tab) acU cO Tryz.func96 rfl (by kernel_rfl) (by kernel_rfl) (by kernel_rfl) ?_
 all_goals(repeat'((try(conv=>whnf));first
  |refine aG ?_|refine aj ?_ ?_|(with_reducible first|refine aQ ?_|refine aP ?_|refine au (λ_=>?_) (λ_=>?_)|refine cZ (λ_=>?_) (λ_=>?_))|refine OnB.mk (λ_=>?_) (λ_=>?_)|refine Drw.mk (by kernel_rfl) ?_|(with_reducible refine dn ?_)|refine Ends.mk ?_))
 all_goals(try refine Pr.mk ?_)
 all_goals(try simp only[iD]at *)
 all_goals first
  |(exfalso;omega)|(refine bE ?_;rw[uq (by show¬((2:Int)=3);decide)];done)⟩
instance aeY(l1 l2:ByteArray)(a c d:P2)(q1:Rat)(r2:Rq):DenI Tryz.prog 96 [.agg [.v (.int .i64 3),.v (.string l1),.sl 8 [aY a],zs q1.num,zl q1.num,zs q1.den,zl q1.den],.agg [.v (.int .i64 1),.v (.string l2),.sl 8 [aY c,aY d],.v (.bool r2.a),aV r2.l,.v (.bool r2.b),aV r2.m]] (dB a∧dB c∧dB d∧rz q1≤12) (.bool (iZ ⟨3,l1,[a],nD q1⟩ ⟨1,l2,[c,d],r2⟩)):=⟨λhp=>by
 obtain⟨g1,g2,g3,g4⟩:=hp
 all_goals refine qp (τ:=tab) acU cO Tryz.func96 rfl (by kernel_rfl) (by kernel_rfl) (by kernel_rfl) ?_
 all_goals(repeat'((try(conv=>whnf));first
  |refine aG ?_|refine aj ?_ ?_|(with_reducible first|refine aQ ?_|refine aP ?_|refine au (λ_=>?_) (λ_=>?_)|refine cZ (λ_=>?_) (λ_=>?_))|refine OnB.mk (λ_=>?_) (λ_=>?_)|refine Drw.mk (by kernel_rfl) ?_|(with_reducible refine dn ?_)|refine Ends.mk ?_))
 all_goals(try refine Pr.mk ?_)
 all_goals(try simp only[iD]at *)
 all_goals first
  |(exfalso;rename ¬True=>h;exact h trivial)|(exfalso;omega)|(refine bE ?_;rw[uq (by show¬((3:Int)=1);decide)];done)⟩
instance afa(l1 l2:ByteArray)(a c n d:P2)(q1:Rat)(r2:Rq):DenI Tryz.prog 96 [.agg [.v (.int .i64 3),.v (.string l1),.sl 8 [aY a],zs q1.num,zl q1.num,zs q1.den,zl q1.den],.agg [.v (.int .i64 2),.v (.string l2),.sl 8 [aY c,aY n,aY d],.v (.bool r2.a),aV r2.l,.v (.bool r2.b),aV r2.m]] (dB a∧dB c∧dB n∧dB d∧rz q1≤12) (.bool (iZ ⟨3,l1,[a],nD q1⟩ ⟨2,l2,[c,n,d],r2⟩)):=⟨λhp=>by
 obtain⟨g1,g2,g3,g4,g5⟩:=hp
 all_goals refine qp (τ:=tab) acU cO Tryz.func96 rfl (by kernel_rfl) (by kernel_rfl) (by kernel_rfl) ?_
 all_goals(repeat'((try(conv=>whnf));first
  |refine aG ?_|refine aj ?_ ?_|(with_reducible first|refine aQ ?_|refine aP ?_|refine au (λ_=>?_) (λ_=>?_)|refine cZ (λ_=>?_) (λ_=>?_))|refine OnB.mk (λ_=>?_) (λ_=>?_)|refine Drw.mk (by kernel_rfl) ?_|(with_reducible refine dn ?_)|refine Ends.mk ?_))
 all_goals(try refine Pr.mk ?_)
 all_goals(try simp only[iD]at *)
 all_goals first
  |(exfalso;rename ¬True=>h;exact h trivial)|(exfalso;omega)|(refine bE ?_;rw[uq (by show¬((3:Int)=2);decide)];done)⟩
instance afc(l1 l2:ByteArray)(a c:P2)(q1:Rat)(q2:Rat):DenI Tryz.prog 96 [.agg [.v (.int .i64 3),.v (.string l1),.sl 8 [aY a],zs q1.num,zl q1.num,zs q1.den,zl q1.den],.agg [.v (.int .i64 3),.v (.string l2),.sl 8 [aY c],zs q2.num,zl q2.num,zs q2.den,zl q2.den]] (dB a∧dB c∧rz q1≤12∧rz q2≤12) (.bool (iZ ⟨3,l1,[a],nD q1⟩ ⟨3,l2,[c],nD q2⟩)):=⟨λhp=>by
 obtain⟨g1,g2,g3,g4⟩:=hp
 all_goals refine qp (τ:=tab) acU cO Tryz.func96 rfl (by kernel_rfl) (by kernel_rfl) (by kernel_rfl) ?_
 all_goals(repeat'((try(conv=>whnf));first
  |refine aG ?_|refine aj ?_ ?_|(with_reducible first|refine aQ ?_|refine aP ?_|refine au (λ_=>?_) (λ_=>?_)|refine cZ (λ_=>?_) (λ_=>?_))|refine OnB.mk (λ_=>?_) (λ_=>?_)|refine Drw.mk (by kernel_rfl) ?_|(with_reducible refine dn ?_)|refine Ends.mk ?_))
 all_goals(try refine Pr.mk ?_)
 all_goals(try simp only[iD]at *)
 all_goals first
  |(exfalso;rename ¬True=>h;exact h trivial)|exact⟨dh g1.1 (by decide),dh g1.2 (by decide),dh g2.1 (by decide),dh g2.2 (by decide)⟩|exact⟨dh g3 (by decide),dh g4 (by decide)⟩|(refine bE ?_;rw[Xw];simp only[BR,Bool.not_eq_false']at *;simp only[pE, *,Bool.and_true,XG,Bool.and_false,Bool.false_and,Bool.or_false,Xp,Bool.or_true,Bool.true_or,decide_true,decide_false,if_true,if_false,Lc,Bool.not_true,Bool.not_false,beq_self_eq_true];done)⟩
instance(priority:=2000) ahu(e f:Ent):DenI Tryz.prog 96 [.agg (aK e),.agg (aK f)] (okV e∧okV f) (.bool (iZ e f)):=⟨λ⟨h1,h2⟩=>by
 rcases yA h1 with⟨l1,a,b,r1,rfl,g1,g3,_⟩|⟨l1,a,m,b,r1,rfl,g1,g2,g3,_⟩|⟨l1,a,q1,rfl,g1,_,g7,_⟩<;>rcases yA h2 with⟨l2,c,d,r2,rfl,g4,g6,_⟩|⟨l2,c,n,d,r2,rfl,g4,g5,g6,_⟩|⟨l2,c,q2,rfl,g4,_,g8,_⟩
 ·exact(adZ l1 l2 a b c d r1 r2).den ⟨g1,g3,g4,g6⟩
 ·exact(afF l1 l2 a b c n d r1 r2).den ⟨g1,g3,g4,g5,g6⟩
 ·exact(afO l1 l2 a b c r1 q2).den ⟨g1,g3,g4,g8⟩
 ·exact(ad3 l1 l2 a m b c d r1 r2).den ⟨g1,g2,g3,g4,g6⟩
 ·exact(adE l1 l2 a m b c n d r1 r2).den ⟨g1,g2,g3,g4,g5,g6⟩
 ·exact(aeT l1 l2 a m b c r1 q2).den ⟨g1,g2,g3,g4,g8⟩
 ·exact(aeY l1 l2 a c d q1 r2).den ⟨g1,g4,g6,g7⟩
 ·exact(afa l1 l2 a c n d q1 r2).den ⟨g1,g4,g5,g6,g7⟩
 ·exact(afc l1 l2 a c q1 q2).den ⟨g1,g4,g7,g8⟩⟩
instance(priority:=2000) ah3(e:Ent):DenI Tryz.prog 95 [.agg (aK e)] (e.kind=2∧okV e) (.bool (DY e)):=⟨λ⟨h0,h1⟩=>by
 rcases yA h1 with⟨l1,a,b,r1,rfl,_⟩|⟨l1,a,m,b,r1,rfl,g1,g2,g3,_⟩|⟨l1,a,q1,rfl,_⟩
 ·cases h0
 ·exact(aeC l1 a m b r1).den ⟨g1,g2,g3⟩
 ·cases h0⟩
@[reducible] def bC(b:Bool):List Cell:=[.v (.bool b)]
instance ahD(l:List (Ent × Nat)):DenI Tryz.prog 52 [.c (.sl 8 (l.map kN))] (l.length≤12∧∀x∈l,okV x.1) (.c (.sl 1 ((dY (l.map (·.1))).map bC))):=⟨λhp=>by
 obtain⟨h1,h4⟩:=hp
 all_goals refine qp (τ:=tab) acU cO Tryz.func52 rfl (by kernel_rfl) (by kernel_rfl) (by kernel_rfl) ?_
 all_goals(repeat'((try(conv=>whnf));first
  |refine gu ?_ ?_))
 all_goals(try refine Pr.mk ?_)
 all_goals first
  |((conv=>whnf);refine Sw.Loop.inv (α:=Nat) (λx=>[(0,.c (.sl 8 (l.map kN))),(3,.gs 8 l.length),(10,.int .i64 (l.length:Nat)),(11,.int .i64 (x:Nat))]) (λx=>[(8,.grow 4 1 ((zk (l.map (·.1)) x).map bC))]) (λx=>x≤l.length) (λx=>l.length-x) 0 ?_ ?_ ?_ (λx hx=>?_))|skip
 all_goals(repeat'((try(conv=>whnf));first
  |(with_reducible refine au (λ_=>?_) (λ_=>?_))|refine bI ?_ ?_|refine Ends.mk ?_))
 all_goals(try refine Pr.mk ?_)
 all_goals first
  |((conv=>whnf);refine Sw.Loop.inv (α:=Nat) (λk=>[(0,.c (.sl 8 (l.map kN))),(3,.gs 8 l.length),(4,.int .i64 (x:Nat)),(10,.int .i64 (l.length:Nat)),(11,.int .i64 (x:Nat)),(14,.int .i64 (x:Nat)),(15,.int .i64 (k:Nat))]) (λk=>[(8,.grow 4 1 ((zk (l.map (·.1)) x).map bC))]) (λk=>k≤x∧uG (l.map (·.1)) x k=false) (λk=>x-k) 0 ?_ ?_ ?_ (λk hk=>?_))|skip
 all_goals(repeat'((try(conv=>whnf));first
  |refine aj ?_ ?_|(with_reducible first|refine aQ ?_|refine aP ?_|refine au (λ_=>?_) (λ_=>?_))|refine OnB.mk (λ_=>?_) (λ_=>?_)|refine bI ?_ ?_|refine Drw.mk (by kernel_rfl) ?_|refine aU N0 ?_ ?_|refine aU false ?_ ?_))
 all_goals(try refine Pr.mk ?_)
 all_goals(try simp only[aZ,gU]at *)
 all_goals first
  |omega|trivial|exact⟨rC _,rfl⟩|((with_reducible show SubB _ _);refine⟨?_,trivial⟩;show some (Bk.grow 4 1 _)=some (Bk.grow 4 1 _);rw[afo,List.map_replicate,aZ])|(have hrl:=rpL (l:=l) (x:=x) (by omega);omega)|exact⟨GX h4 (by omega),GX h4 (by omega)⟩|((with_reducible show aA _=_);have hxx:x=l.length:=(by omega);subst hxx;rw[Zy];rfl)|(have hh:=abe (l:=l) (x:=x) (k:=k) (by omega) (by omega) hk.2 (by first|exact .inl (by assumption)|exact .inr (by assumption));(conv=>whnf);exact⟨k+1,⟨⟨rfl,rfl,rfl,rfl,rfl,rfl,bQ (by omega),trivial⟩,⟨rfl,trivial⟩,⟨by omega,hh⟩,(by show x-(k+1)<x-k;omega)⟩⟩)|(have hh:=ac9 (l:=l) (x:=x) (k:=k) (by omega) (by omega) (by assumption) (by assumption);(conv=>whnf);exact⟨x+1,⟨⟨rfl,rfl,rfl,bQ (by omega),trivial⟩,⟨(by rw[hh,List.map_set];(first|done|rfl)),trivial⟩,by omega,(by show l.length-(x+1)<l.length-x;omega)⟩⟩)|(have hxx:k=x:=(by omega);subst hxx;have hh:=ad1 (l:=l) (x:=k) (by omega) hk.2;(conv=>whnf);exact⟨k+1,⟨⟨rfl,rfl,rfl,bQ (by omega),trivial⟩,⟨(by rw[hh];(first|done|rfl)),trivial⟩,by omega,(by show l.length-(k+1)<l.length-k;omega)⟩⟩)⟩
instance aaq(l:List (Ent × Nat))(i k:Nat)(v:P2):DenI Tryz.prog 97 [.c (.sl 8 (l.map kN)),.int .i64 (i:Nat),.int .i64 (k:Nat),.agg (aY v)] (l.length≤12∧i<l.length∧k≤1∧dB v∧∀x∈l,okE x.1) (.bool (D8 l (l.getD i N0).1.layer i k v)):=⟨λ⟨h1,h2,hk,h3,h4⟩=>by
 refine qp (τ:=FC) lG cO Tryz.func97 rfl (by kernel_rfl) (by kernel_rfl) (by kernel_rfl) ?_
 (conv=>whnf)
 refine Sw.Loop.inv (α:=Nat) (λx=>[(0,.c (.sl 8 (l.map kN))),(1,.int .i64 (i:Nat)),(2,.int .i64 (k:Nat)),(7,.ptr 7 0),(15,.c (.sl 8 (l.map kN))),(16,.int .i64 (l.length:Nat)),(17,.int .i64 (x:Nat))]) (λx=>[(7,.var (aY v))]) (λx=>x≤l.length∧∀j<x,metAt l (l.getD i N0).1.layer i k v j=false) (λx=>l.length-x) 0 ?_ ?_ ?_ (λx hx=>?_)
 ·exact⟨rfl,rfl,rfl,rfl,rfl,by simp only[aZ];rfl,rfl,trivial⟩
 ·exact⟨rfl,trivial⟩
 ·exact⟨rC _,λj hj=>absurd hj (Sv _)⟩
 obtain⟨hx1,hx2⟩:=hx;obtain⟨g1,g2,g3⟩:=OB h4 x;rcases mV (l.getD x N0).1 with hE|⟨a,b,hE⟩
 ·haveI ie:DenI Tryz.prog 30 [.agg (aK (l.getD (Int.toNat ((x:Nat):Int)) N0).1)] ((l.getD x N0).1.pts.length≤1000000) (.tup [.c (.sl 8 []),.bool false]):=⟨λhp=>by have:=(ng (l.getD x N0).1).den hp;rw[hE]at this;simpa using this⟩
  all_goals(repeat'((try(conv=>whnf));first
   |refine aG ?_|refine aj ?_ ?_|refine kH ?_ (λ_=>?_) (λ_=>?_)|(with_reducible first|refine aQ ?_|refine aP ?_|refine au (λ_=>?_) (λ_=>?_)|refine cZ (λ_=>?_) (λ_=>?_))|refine OnB.mk (λ_=>?_) (λ_=>?_)|refine bI ?_ ?_|refine Drw.mk (by kernel_rfl) ?_|refine gu ?_ ?_|refine iG ?_ ?_|(with_reducible first|refine bZ ?_ ?_|refine dn ?_|refine dM ?_)|refine aU N0 ?_ ?_|refine Ends.mk ?_))
  all_goals(try refine Pr.mk ?_)
  all_goals first
   |((conv=>whnf);refine Sw.Loop.unroll ?_)|skip
  all_goals(repeat'((try rw[Qe]);(try rw[IU]);(try(conv=>whnf));first
   |refine aG ?_|refine aj ?_ ?_|(with_reducible first|refine aQ ?_|refine aP ?_)|refine Yp (by simp only[iR,jB];decide) ?_|refine Gm (by simp only[iR,jB];decide) ?_|refine Yp (by decide) ?_|refine Gm (by decide) ?_|(with_reducible first|refine au (λ_=>?_) (λ_=>?_)|refine cZ (λ_=>?_) (λ_=>?_))|refine OnB.mk (λ_=>?_) (λ_=>?_)|refine bI ?_ ?_|refine Drw.mk (by kernel_rfl) ?_|refine gu ?_ ?_|refine iG ?_ ?_|(with_reducible first|refine bZ ?_ ?_|refine dn ?_|refine dM ?_)|refine Ends.mk ?_))
  all_goals(try refine Pr.mk ?_)
  all_goals(try simp only[aZ,gU]at *)
  all_goals first
   |omega|((with_reducible show _∧_);first|omega|exact⟨dh h3.1 (by decide),dh h3.2 (by decide),dh ha.1 (by decide),dh ha.2 (by decide)⟩|exact⟨dh h3.1 (by decide),dh h3.2 (by decide),dh hb.1 (by decide),dh hb.2 (by decide)⟩)|((with_reducible show aA [AV.c (Cell.v (Value.bool false))]=_);have hxx:x=l.length:=(by omega);subst hxx;rw[Tj hx2];rfl)|((with_reducible show aA [AV.c (Cell.v (Value.bool true))]=_);rw[adh (x:=x) (by omega) (by(rw[NY (by omega) hE (by assumption)];clear hx2 h4;grind))];rfl)|(exfalso;rename_i q;simp at q;done)|(have hm:=Ei (i:=i) (k:=k) (v:=v) (l:=l) (x:=x) (by omega) (by assumption);(conv=>whnf);exact⟨x+1,⟨⟨rfl,rfl,rfl,rfl,rfl,rfl,bQ (by omega),trivial⟩,⟨rfl,trivial⟩,⟨by omega,wS hx2 hm⟩,(by show l.length-(x+1)<l.length-x;omega)⟩⟩)|(have hm:=Sz (s:=(l.getD i N0).1.layer) (i:=i) (k:=k) (v:=v) (l:=l) (x:=x) (by omega) hE;(conv=>whnf);exact⟨x+1,⟨⟨rfl,rfl,rfl,rfl,rfl,rfl,bQ (by omega),trivial⟩,⟨rfl,trivial⟩,⟨by omega,wS hx2 hm⟩,(by show l.length-(x+1)<l.length-x;omega)⟩⟩)|skip
 ·haveI ie:DenI Tryz.prog 30 [.agg (aK (l.getD (Int.toNat ((x:Nat):Int)) N0).1)] ((l.getD x N0).1.pts.length≤1000000) (.tup [.c (.sl 8 [aY a,aY b]),.bool true]):=⟨λhp=>by have:=(ng (l.getD x N0).1).den hp;rw[hE]at this;simpa using this⟩
  have ha:dB a:=g1 a (iw (by rw[hE];simp));have hb:dB b:=g1 b (iw (by rw[hE];simp))
  all_goals(repeat'((try(conv=>whnf));first
   |refine aG ?_|refine aj ?_ ?_|refine kH ?_ (λ_=>?_) (λ_=>?_)|(with_reducible first|refine aQ ?_|refine aP ?_|refine au (λ_=>?_) (λ_=>?_)|refine cZ (λ_=>?_) (λ_=>?_))|refine OnB.mk (λ_=>?_) (λ_=>?_)|refine bI ?_ ?_|refine Drw.mk (by kernel_rfl) ?_|refine gu ?_ ?_|refine iG ?_ ?_|(with_reducible first|refine bZ ?_ ?_|refine dn ?_|refine dM ?_)|refine aU N0 ?_ ?_|refine Ends.mk ?_))
  all_goals(try refine Pr.mk ?_)
  all_goals first
   |((conv=>whnf);refine Sw.Loop.unroll ?_)|skip
  all_goals(repeat'((try rw[Qe]);(try rw[IU]);(try(conv=>whnf));first
   |refine aG ?_|refine aj ?_ ?_|(with_reducible first|refine aQ ?_|refine aP ?_)|refine Yp (by simp only[iR,jB];decide) ?_|refine Gm (by simp only[iR,jB];decide) ?_|refine Yp (by decide) ?_|refine Gm (by decide) ?_|(with_reducible first|refine au (λ_=>?_) (λ_=>?_)|refine cZ (λ_=>?_) (λ_=>?_))|refine OnB.mk (λ_=>?_) (λ_=>?_)|refine bI ?_ ?_|refine Drw.mk (by kernel_rfl) ?_|refine gu ?_ ?_|refine iG ?_ ?_|(with_reducible first|refine bZ ?_ ?_|refine dn ?_|refine dM ?_)|refine Ends.mk ?_))
  all_goals(try refine Pr.mk ?_)
  all_goals first
   |((conv=>whnf);refine Sw.Loop.unroll ?_)|skip
  all_goals(repeat'((try rw[Qe]);(try rw[IU]);(try(conv=>whnf));first
   |refine aG ?_|refine aj ?_ ?_|(with_reducible first|refine aQ ?_|refine aP ?_)|refine Yp (by simp only[iR,jB];decide) ?_|refine Gm (by simp only[iR,jB];decide) ?_|refine Yp (by decide) ?_|refine Gm (by decide) ?_|(with_reducible first|refine au (λ_=>?_) (λ_=>?_)|refine cZ (λ_=>?_) (λ_=>?_))|refine OnB.mk (λ_=>?_) (λ_=>?_)|refine bI ?_ ?_|refine Drw.mk (by kernel_rfl) ?_|refine gu ?_ ?_|refine iG ?_ ?_|(with_reducible first|refine bZ ?_ ?_|refine dn ?_|refine dM ?_)|refine Ends.mk ?_))
  all_goals(try refine Pr.mk ?_)
  all_goals first
   |((conv=>whnf);refine Sw.Loop.unroll ?_)|skip
  all_goals(repeat'((try rw[Qe]);(try rw[IU]);(try(conv=>whnf));first
   |refine aG ?_|refine aj ?_ ?_|(with_reducible first|refine aQ ?_|refine aP ?_)|refine Yp (by simp only[iR,jB];decide) ?_|refine Gm (by simp only[iR,jB];decide) ?_|refine Yp (by decide) ?_|refine Gm (by decide) ?_|(with_reducible first|refine au (λ_=>?_) (λ_=>?_)|refine cZ (λ_=>?_) (λ_=>?_))|refine OnB.mk (λ_=>?_) (λ_=>?_)|refine bI ?_ ?_|refine Drw.mk (by kernel_rfl) ?_|refine gu ?_ ?_|refine iG ?_ ?_|(with_reducible first|refine bZ ?_ ?_|refine dn ?_|refine dM ?_)|refine Ends.mk ?_))
  all_goals(try refine Pr.mk ?_)
  all_goals(try simp only[aZ,gU]at *)
  all_goals first
   |omega|((with_reducible show _∧_);first|omega|exact⟨dh h3.1 (by decide),dh h3.2 (by decide),dh ha.1 (by decide),dh ha.2 (by decide)⟩|exact⟨dh h3.1 (by decide),dh h3.2 (by decide),dh hb.1 (by decide),dh hb.2 (by decide)⟩)|((with_reducible show aA [AV.c (Cell.v (Value.bool false))]=_);have hxx:x=l.length:=(by omega);subst hxx;rw[Tj hx2];rfl)|((with_reducible show aA [AV.c (Cell.v (Value.bool true))]=_);rw[adh (x:=x) (by omega) (by(rw[NY (by omega) hE (by assumption)];clear hx2 h4;grind))];rfl)|(exfalso;rename_i q;simp at q;done)|(have hm:=Ei (i:=i) (k:=k) (v:=v) (l:=l) (x:=x) (by omega) (by assumption);(conv=>whnf);exact⟨x+1,⟨⟨rfl,rfl,rfl,rfl,rfl,rfl,bQ (by omega),trivial⟩,⟨rfl,trivial⟩,⟨by omega,wS hx2 hm⟩,(by show l.length-(x+1)<l.length-x;omega)⟩⟩)|(have hm:metAt l (l.getD i N0).1.layer i k v x=false:=(by(rw[NY (by omega) hE (by assumption)];clear hx2 h4;grind));(conv=>whnf);exact⟨x+1,⟨⟨rfl,rfl,rfl,rfl,rfl,rfl,bQ (by omega),trivial⟩,⟨rfl,trivial⟩,⟨by omega,wS hx2 hm⟩,(by show l.length-(x+1)<l.length-x;omega)⟩⟩)|skip⟩
instance agI(l:List (Ent × Nat))(i:Nat)(v:P2):DenI Tryz.prog 97 [.c (.sl 8 (l.map kN)),.int .i64 (i:Nat),.int .i64 0,.agg (aY v)] (l.length≤12∧i<l.length∧dB v∧∀x∈l,okE x.1) (.bool (D8 l (l.getD i N0).1.layer i 0 v)):=⟨λhp=>(aaq l i 0 v).den ⟨hp.1,hp.2.1,by omega,hp.2.2⟩⟩
instance ahT(l:List (Ent × Nat))(i:Nat)(v:P2):DenI Tryz.prog 97 [.c (.sl 8 (l.map kN)),.int .i64 (i:Nat),.int .i64 1,.agg (aY v)] (l.length≤12∧i<l.length∧dB v∧∀x∈l,okE x.1) (.bool (D8 l (l.getD i N0).1.layer i 1 v)):=⟨λhp=>(aaq l i 1 v).den ⟨hp.1,hp.2.1,by omega,hp.2.2⟩⟩
instance ahg(l:List (Ent × Nat)):DenI Tryz.prog 54 [.c (.sl 8 (l.map kN))] (l.length≤12∧∀x∈l,okE x.1) (.c (.sl 19 ((BN l).map iF))):=⟨λ⟨h1,h4⟩=>by
 refine qp (τ:=FC) lG cO Tryz.func54 rfl (by kernel_rfl) (by kernel_rfl) (by kernel_rfl) ?_
 (conv=>whnf)
 refine Sw.Loop.ghost 3 100 47 19 ?_ rfl rfl rfl (by decide);refine Sw.Loop.inv (α:=Nat) (λx=>[(0,.c (.sl 8 (l.map kN))),(10,.c (.sl 8 (l.map kN))),(11,.int .i64 (l.length:Nat)),(12,.int .i64 (x:Nat)),(3,.gs 100 ((Tz l x).map iF).length)]) (λx=>[(100,.grow 47 19 ((Tz l x).map iF))]) (λx=>x≤l.length) (λx=>l.length-x) 0 ?_ ?_ ?_ (λx hx=>?_)
 ·exact⟨rfl,rfl,by simp only[aZ];rfl,rfl,rfl,trivial⟩
 ·exact⟨rfl,trivial⟩
 ·exact rC _
 have hol:=AA l x hx;obtain⟨g1,g2,g3⟩:=OB h4 x;rcases mV (l.getD x N0).1 with hE|⟨a,b,hE⟩
 ·haveI ie:DenI Tryz.prog 30 [.agg (aK (l.getD (Int.toNat ((x:Nat):Int)) N0).1)] ((l.getD x N0).1.pts.length≤1000000) (.tup [.c (.sl 8 []),.bool false]):=⟨λhp=>by have:=(ng (l.getD x N0).1).den hp;rw[hE]at this;simpa using this⟩
  all_goals(repeat'((try(conv=>whnf));first
   |refine aj ?_ ?_|(with_reducible refine au (λ_=>?_) (λ_=>?_))|refine bI ?_ ?_|refine aU N0 ?_ ?_|refine Ends.mk ?_))
  all_goals(try refine Pr.mk ?_)
  all_goals first
   |((conv=>whnf);refine Sw.Loop.unroll ?_)|skip
  all_goals(repeat'((try rw[Qe]);(try rw[IU]);(try(conv=>whnf));first
   |refine Gm (by simp only[iR,jB];decide) ?_))
  all_goals(try simp only[aZ,gU]at *)
  all_goals first
   |omega|((with_reducible show aA _=_);have hxx:x=l.length:=(by omega);subst hxx;rfl)|(have hA:=O9 (l:=l) (x:=x) (by omega) hE;(conv=>whnf);exact⟨x+1,⟨⟨rfl,rfl,rfl,bQ (by omega),(by(simp only[hA,gG,gY,iY,gq,iy,aZ,iR,jB]);(first|done|rfl)),trivial⟩,⟨(by(simp only[hA,gG,gY,iY,gq]);(first|done|rfl)),trivial⟩,by omega,(by show l.length-(x+1)<l.length-x;omega)⟩⟩)
 ·haveI ie:DenI Tryz.prog 30 [.agg (aK (l.getD (Int.toNat ((x:Nat):Int)) N0).1)] ((l.getD x N0).1.pts.length≤1000000) (.tup [.c (.sl 8 [aY a,aY b]),.bool true]):=⟨λhp=>by have:=(ng (l.getD x N0).1).den hp;rw[hE]at this;simpa using this⟩
  have ha:dB a:=g1 a (iw (by rw[hE];simp));have hb:dB b:=g1 b (iw (by rw[hE];simp))
  all_goals(repeat'((try(conv=>whnf));first
   |refine aj ?_ ?_|(with_reducible refine au (λ_=>?_) (λ_=>?_))|refine bI ?_ ?_|refine aU N0 ?_ ?_|refine Ends.mk ?_))
  all_goals(try refine Pr.mk ?_)
  all_goals first
   |((conv=>whnf);refine Sw.Loop.unroll ?_)|skip
  all_goals(repeat'((try rw[Qe]);(try rw[IU]);(try(conv=>whnf));first
   |refine aj ?_ ?_|(with_reducible refine au (λ_=>?_) (λ_=>?_))|refine OnB.mk (λ_=>?_) (λ_=>?_)|refine bI ?_ ?_|(with_reducible refine dn ?_)))
  all_goals(try refine Pr.mk ?_)
  all_goals first
   |((conv=>whnf);refine Sw.Loop.unroll ?_)|skip
  all_goals(repeat'((try rw[Qe]);(try rw[IU]);(try(conv=>whnf));first
   |refine aj ?_ ?_|(with_reducible refine au (λ_=>?_) (λ_=>?_))|refine OnB.mk (λ_=>?_) (λ_=>?_)|refine bI ?_ ?_|(with_reducible refine dM ?_)))
  all_goals(try refine Pr.mk ?_)
  all_goals first
   |((conv=>whnf);refine Sw.Loop.unroll ?_)|skip
  all_goals(repeat'((try rw[Qe]);(try rw[IU]);(try(conv=>whnf));first
   |(with_reducible refine au (λ_=>?_) (λ_=>?_))))
  all_goals(try simp only[aZ,gU]at *)
  all_goals first
   |omega|((with_reducible show(_:Nat)≤_);simp only[iy,aZ,iR,jB];omega)|((with_reducible show _∧_);first|omega|exact⟨h1,by omega,ha,h4⟩|exact⟨h1,by omega,hb,h4⟩)|((with_reducible show aA _=_);have hxx:x=l.length:=(by omega);subst hxx;rfl)|(exfalso;rename_i q;simp at q;done)|(have hA:=Pv (l:=l) (x:=x) (by omega) hE;first|(have q1:=FM (n:=(l.getD x N0).2) (l:=l) (s:=(l.getD x N0).1.layer) (i:=x) (k:=0) (v:=a) (by assumption);have q2:=FM (n:=(l.getD x N0).2) (l:=l) (s:=(l.getD x N0).1.layer) (i:=x) (k:=1) (v:=b) (by assumption);(conv=>whnf);exact⟨x+1,⟨⟨rfl,rfl,rfl,bQ (by omega),(by(simp only[hA,q1,q2,vJ,vg,nT,gG,gY,iY,gq,iy,aZ,iR,jB]);(first|done|rfl)),trivial⟩,⟨(by(simp only[hA,q1,q2,vJ,vg,nT,gG,gY,iY,gq]);(first|done|rfl)),trivial⟩,by omega,(by show l.length-(x+1)<l.length-x;omega)⟩⟩)|(have q1:=FM (n:=(l.getD x N0).2) (l:=l) (s:=(l.getD x N0).1.layer) (i:=x) (k:=0) (v:=a) (by assumption);have q2:=H6 (n:=(l.getD x N0).2) (l:=l) (s:=(l.getD x N0).1.layer) (i:=x) (k:=1) (v:=b) (by assumption);(conv=>whnf);exact⟨x+1,⟨⟨rfl,rfl,rfl,bQ (by omega),(by(simp only[hA,q1,q2,vJ,vg,nT,gG,gY,iY,gq,iy,aZ,iR,jB]);(first|done|rfl)),trivial⟩,⟨(by(simp only[hA,q1,q2,vJ,vg,nT,gG,gY,iY,gq]);(first|done|rfl)),trivial⟩,by omega,(by show l.length-(x+1)<l.length-x;omega)⟩⟩)|(have q1:=H6 (n:=(l.getD x N0).2) (l:=l) (s:=(l.getD x N0).1.layer) (i:=x) (k:=0) (v:=a) (by assumption);have q2:=FM (n:=(l.getD x N0).2) (l:=l) (s:=(l.getD x N0).1.layer) (i:=x) (k:=1) (v:=b) (by assumption);(conv=>whnf);exact⟨x+1,⟨⟨rfl,rfl,rfl,bQ (by omega),(by(simp only[hA,q1,q2,vJ,vg,nT,gG,gY,iY,gq,iy,aZ,iR,jB]);(first|done|rfl)),trivial⟩,⟨(by(simp only[hA,q1,q2,vJ,vg,nT,gG,gY,iY,gq]);(first|done|rfl)),trivial⟩,by omega,(by show l.length-(x+1)<l.length-x;omega)⟩⟩)|(have q1:=H6 (n:=(l.getD x N0).2) (l:=l) (s:=(l.getD x N0).1.layer) (i:=x) (k:=0) (v:=a) (by assumption);have q2:=H6 (n:=(l.getD x N0).2) (l:=l) (s:=(l.getD x N0).1.layer) (i:=x) (k:=1) (v:=b) (by assumption);(conv=>whnf);exact⟨x+1,⟨⟨rfl,rfl,rfl,bQ (by omega),(by(simp only[hA,q1,q2,vJ,vg,nT,gG,gY,iY,gq,iy,aZ,iR,jB]);(first|done|rfl)),trivial⟩,⟨(by(simp only[hA,q1,q2,vJ,vg,nT,gG,gY,iY,gq]);(first|done|rfl)),trivial⟩,by omega,(by show l.length-(x+1)<l.length-x;omega)⟩⟩))⟩
end Go.Proofs.YtmniihkenijjpaaGreatDoor
