/-
  Parts of the proof: Pwrong Bytes Scatch Sscan Scan2 Ldig. By an AI agent.
-/
import Derived.Test.YtcoiialmdncpfaaGreatDoorJ12
import Derived.Test.YtcoiialmdncpfaaGreatDoorJ01
import Derived.Test.YtcoiialmdncpfaaGreatDoorJ11
import Derived.Test.YtcoiialmdncpfaaGreatDoorJ04
import Derived.Lib.BufferRead
import Derived.BigQuiet
import Derived.Defers
import Derived.Recover
import Derived.Deep.RegionLaw
open Go.Proofs.Tryz
set_option maxRecDepth 100000
set_option maxHeartbeats 8000000
namespace Go.Proofs.YtcoiialmdncpfaaGreatDoor
section
open Go.RowKit Go.Lib Go.Proofs
attribute [local go_sem ↓] Go.wp_at_zero Go.wp_at_succ
theorem kZ:type_of% @Go.leaves_cons:=@Go.leaves_cons
theorem qS:type_of% @List.append_assoc:=@List.append_assoc
theorem qY:type_of% @Go.wpS_region:=@Go.wpS_region
theorem vy:type_of% @List.append_nil:=@List.append_nil
theorem vM:type_of% @Go.callsD_of_wpS:=@Go.callsD_of_wpS
theorem vW:type_of% @Go.wpS_seq:=@Go.wpS_seq
theorem xq:type_of% @Go.wpS_of_wp:=@Go.wpS_of_wp
theorem Ie:prog.underlying 22=some (.slice (prog.elem 22)):=by kernel_rfl
theorem Og:prog.elem 22=5:=by kernel_rfl
theorem O7(w:World):(sizeOf (prog.elem 22)).run prog w=.ok 1 w:=by rw[Og];exact sizeOf5 w
theorem yu(g o n c k:Nat)(I:k<n)(D:n<=c)(W:World):(Instr.slice 22 (.slice (some ⟨g,o,none⟩) n c) (some (.int .i64 (k:Int))) none none).run prog W=.ok (.slice (some ⟨g,o+k,none⟩) (n-k) (c-k)) W:=by rw[run_slice_l (P:=prog) W 22 _ n c Ie .i64 (k:Int) (by omega) (by omega),O7];simp only[Result.andThen,sliced,Int.toNat_natCast];rw[gE (by omega)];simp[iU]
def su(r:Option Nat):Int:=match r with|some i=>(i:Int)|none =>-1
theorem Fx(g o c:Nat)(s:ByteArray)(w:World)(hT:fQ w)(hb:Lib.Bytes w g o s)(hg:g<w.heap.size)(hc:s.size<=c)(gs:s.size<=1000000000):
  Calls prog 115 #[.slice (some ⟨g,o,none⟩) s.size c] w fun e w'=>e=.returned (.int .i64 (su (mT s)))/\Below w w w':=by
 have J:=hid (fun w'(hB:Below w w w')j(hj:j<s.size)=>yq g o c j s w' (hT.below hB) (fun i hi=>(jM (a:=⟨g,o+i,none⟩) (hB.block g hg)).trans (hb i hi)) hj);have gp:=run_convert_whole (P:=prog) w 22 5 9 underlying22 underlying5 underlying9 g o s hb c;have hcut:=fun k hk W=>yu g o s.size c k hk hc W;obtain⟨R,hR⟩:∃R,R=mT s:=⟨_,rfl⟩;rw[<-hR];have gq:Hid (iy s s.size 0=R):=hid hR.symm;clear hb hT hR;(go_enter func115,ntmps115);go_wp2_with fail;clear gp;go_loopg [3,4,5,6,10,11] s.size (fun gg _ _ _ _ _ _ wr=>∃j f:Nat,j<=s.size/\s.size-j<=gg/\wr.heap[w.heap.size]? = some (.stringIter s j)/\Below w w wr/\iy s f j=R/\s.size-j<=f)
 case atStart=>exact⟨0,s.size,gT _,by omega,qJ w _ 0,(gC w.heap.size w).alloc (gA _) _,gq.out,by omega⟩
 case round=>
  obtain⟨j,f,hj,gw,hit,y,gi,hf⟩:=hrel;have ge:=hid hit;have gd:=hid gi;clear hit gi;by_cases I:j<s.size
  ·obtain⟨f1,rfl⟩:∃f1,f=f1+1:=⟨f-1,by omega⟩;have HQ:=hid (fun(_:Nat)=>show(if(Utf8.decode s j).1=0\/((Utf8.decode s j).1=65533/\(Utf8.decode s j).2=1)\/((Utf8.decode s j).1=65279/\0<j)then some j else iy s f1 (j+(Utf8.decode s j).2))=R by have:=gd.out;rw[iy,gL I]at this;exact this);have x:=fun ty=>qV (P:=prog) wr w.heap.size s j ty ge.out I;have yk:1<=(Utf8.decode s j).2/\j+(Utf8.decode s j).2<=s.size:=by
    by_cases gj:ai s j<128
    ·rw[io s j gj];exact⟨gA _,I⟩
    ·have:=eC s j I (by omega);exact⟨this.2.1,this.2.2.1⟩
   have J:=hid (fun w'(hB:Below w w w')=>J.out w' hB j I);generalize Utf8.decode s j=q at *;obtain⟨r,k⟩:=q;simp only at yk x HQ J;obtain⟨gu,gt⟩:=yk;have j1:=qZ wr w.heap.size s j (j+k) ge.out;have M:Below w w (wr.iterAt w.heap.size s (j+k)):=bx y (gA _);have j0:w.heap.size<(wr.iterAt w.heap.size s (j+k)).heap.size:=by
    rcases kN w.heap.size (wr.iterAt w.heap.size s (j+k)).heap.size with h|h
    ·exact h
    ·rw[kH h]at j1;cases j1
   generalize wr.iterAt w.heap.size s (j+k)=W1 at x j1 M j0;have gx:=hcut j I;have J1:=hid j1;have hq:=trivial;clear j1 y gd;by_cases gh:r=0
   ·have z:=hid (show(r=0\/(r=65533/\k=1)\/(r=65279/\0<j))by omega);subst gh;have O:Hid (R=some j):=hid (by rw[<-HQ.out f1,gL z.out]);clear hq;go_wp2_with fail;refine(J.out _ M).mono ?_;rintro e w3⟨rfl,D⟩;go_wp2_with fail;go_ret;exact⟨by rw[O.out];rfl,aE M D⟩
   ·by_cases gb:r=65533
    ·by_cases gn:k=1
     ·have z:=hid (show(r=0\/(r=65533/\k=1)\/(r=65279/\0<j))by omega);subst gb gn;have O:Hid (R=some j):=hid (by rw[<-HQ.out f1,gL z.out]);clear hq;go_wp2_with fail;refine(J.out _ M).mono ?_;rintro e w3⟨rfl,D⟩;go_wp2_with fail;go_ret;exact⟨by rw[O.out];rfl,aE M D⟩
     ·have z:=hid (show ¬ (r=0\/(r=65533/\k=1)\/(r=65279/\0<j))by omega);(have ek:((k:Int)==1)=false:=by rw[gD];omega);subst gb;have O:Hid (iy s f1 (j+k)=R):=hid (by rw[<-HQ.out f1,gE z.out]);clear hq;go_wp2_with fail;refine(J.out _ M).mono ?_;rintro e w3⟨rfl,D⟩;have J3:=hid ((D.block w.heap.size j0).trans J1.out);go_wp2_with fail;go_roundg (s.size-(j+k))
      case measure=>omega
      case rel=>exact⟨j+k,f1,by omega,gA _,J3.out,aE M D,O.out,by omega⟩
    ·by_cases ga:r=65279
     ·by_cases gv:0<j
      ·have z:=hid (show(r=0\/(r=65533/\k=1)\/(r=65279/\0<j))by omega);(have ej:decide ((0:Int)<(j:Int))=true:=by rw[jB];omega);subst ga;have O:Hid (R=some j):=hid (by rw[<-HQ.out f1,gL z.out]);clear hq;go_wp2_with fail;refine(J.out _ M).mono ?_;rintro e w3⟨rfl,D⟩;go_wp2_with fail;go_ret;exact⟨by rw[O.out];rfl,aE M D⟩
      ·have z:=hid (show ¬ (r=0\/(r=65533/\k=1)\/(r=65279/\0<j))by omega);(have ej:decide ((0:Int)<(j:Int))=false:=by rw[gH];omega);subst ga;have O:Hid (iy s f1 (j+k)=R):=hid (by rw[<-HQ.out f1,gE z.out]);clear hq;go_wp2_with fail;refine(J.out _ M).mono ?_;rintro e w3⟨rfl,D⟩;have J3:=hid ((D.block w.heap.size j0).trans J1.out);go_wp2_with fail;go_roundg (s.size-(j+k))
       case measure=>omega
       case rel=>exact⟨j+k,f1,by omega,gA _,J3.out,aE M D,O.out,by omega⟩
     ·have z:=hid (show ¬ (r=0\/(r=65533/\k=1)\/(r=65279/\0<j))by omega);(have e0:((r:Int)==0)=false:=by rw[gD];omega);(have gl:((r:Int)==65533)=false:=by rw[gD];omega);(have gm:((r:Int)==65279)=false:=by rw[gD];omega);clear gh gb ga;have O:Hid (iy s f1 (j+k)=R):=hid (by rw[<-HQ.out f1,gE z.out]);clear hq;go_wp2_with fail;refine(J.out _ M).mono ?_;rintro e w3⟨rfl,D⟩;have J3:=hid ((D.block w.heap.size j0).trans J1.out);go_wp2_with fail;go_roundg (s.size-(j+k))
      case measure=>omega
      case rel=>exact⟨j+k,f1,by omega,gA _,J3.out,aE M D,O.out,by omega⟩
  ·have gr:=fun ty=>qL (P:=prog) wr w.heap.size s j ty ge.out I;have O:Hid (R=none):=hid (by
    rw[<-gd.out];cases f with
    |zero=>rfl
    |succ f=>rw[iy,gE I])
   go_wp2_with fail;go_ret;exact⟨by rw[O.out];rfl,y⟩
theorem Fy(w:World):
  Calls prog 115 #[.slice none 0 0] w fun e w'=>e=.returned (.int .i64 (-1))/\Below w w w':=by have I:=run_convert_nil_bytes (P:=prog) w 22 9 5 0 underlying22 underlying5 underlying9;have hit:=qJ w ⟨#[]⟩ 0;have D:=fun ty=>qL (P:=prog) (w.iter ⟨#[]⟩ 0) w.heap.size ⟨#[]⟩ 0 ty hit (by decide);have J:=hid (show Below w w (w.iter ⟨#[]⟩ 0)from(gC w.heap.size w).alloc (gA _) _);clear hit;(go_enter func115,ntmps115);go_wp2_with fail;refine kG 1 ?_;rw[jH];go_wp2_with fail;go_ret;exact⟨rfl,J.out⟩
theorem BR{w w':World}{g o:Nat}{s:ByteArray}(h:Lib.Bytes w g o s)(D:g<w.heap.size)(hb:Below w w w'):Lib.Bytes w' g o s:=
 fun i hi=>(jM (a:=⟨g,o+i,none⟩) (hb.block g D)).trans (h i hi)
def bR(w:World)(A:Option Addr)(c:Nat)(s:ByteArray):Prop:=
 (A=none/\c=0/\s=⟨#[]⟩)\/∃g o,A=some ⟨g,o,none⟩/\s.size<=c/\g<w.heap.size/\Lib.Bytes w g o s
theorem bR.below{w w':World}{A:Option Addr}{c:Nat}{s:ByteArray}(h:bR w A c s)(hb:Below w w w'):bR w' A c s:=by
 rcases h with h|⟨g,o,M,J,D,I⟩
 ·exact .inl h
 ·exact .inr ⟨g,o,M,J,jY D hb.size,BR I D hb⟩
theorem bR.wrong{w:World}{A:Option Addr}{c:Nat}{s:ByteArray}(h:bR w A c s)(hT:fQ w)(D:s.size<=1000000000):
  Calls prog 115 #[.slice A s.size c] w fun e w'=>e=.returned (.int .i64 (su (mT s)))/\Below w w w':=by
 rcases h with⟨rfl,rfl,rfl⟩|⟨g,o,rfl,M,J,I⟩
 ·exact Fy w
 ·exact Fx g o c s w hT I J M D
theorem bR.conv{w:World}{A:Option Addr}{c:Nat}{s:ByteArray}(h:bR w A c s):
  (convert 22 9 (.slice A s.size c)).run prog w=.ok (.string s) w:=by
 rcases h with⟨rfl,rfl,rfl⟩|⟨g,o,rfl,J,I,D⟩
 ·exact run_convert_nil_bytes (P:=prog) w 22 9 5 0 underlying22 underlying5 underlying9
 ·exact run_convert_whole (P:=prog) w 22 5 9 underlying22 underlying5 underlying9 g o s D c
theorem M2(v:Value)(w:World):(Instr.typeAssert (.iface 186 v) 20 186 true).run prog w=.ok (.tuple #[v,.bool true]) w:=by kernel_rfl
attribute [local go_sem] M2
theorem D0(B P Q R:Nat)(p:Nat)(vP vQ vR:Value)(w:World)(hP:aa w P 127 #[vP])(hQ:aa w Q 3 #[vQ])(hR:aa w R 49 #[vR])(gd:B<=P)(gb:B<=Q)(ga:B<=R)(h:P≠Q)(O:P≠R)(M:Q≠R):
  CallsD prog 116 #[P,Q,R] (.panicking [{ v:=.iface 186 (.agg #[(p:Int)]),recovered:=false }]) w
   fun e u' w'=>e=.returned (.tuple #[])/\u'=.panicking [{ v:=.iface 186 (.agg #[(p:Int)]),recovered:=true }] /\
    aa w' P 127 #[.pointer none]/\aa w' Q 3 #[(p:Int)]/\aa w' R 49 #[.int .i64 3]/\Below B w w':=by refine vM func116 rfl fun c₀ cs hu=>?_;apply vW;apply qY;simp[wpOpsS,go_sem,recoverD,hu,ntmps116,Exit.thenS];apply vW;apply qY;simp[wpOpsS,go_sem,Exit.thenS];refine wpS_cond (t:=true) (by simp[Act.eval,Array.replicate]) ?_;simp only[kS];refine xq ?_;change Code.wp _ _ _ { tmps:=#[.pointer (some ⟨P,0,none⟩),.pointer (some ⟨Q,0,none⟩),.pointer (some ⟨R,0,none⟩),.iface 186 (.agg #[(p:Int)]),undef,undef,.iface 186 (.agg #[(p:Int)]),.iface 186 (.agg #[(p:Int)]),.bool true,undef,undef,undef,undef,undef,undef,undef,undef,undef,undef],defers:=[] } _;have J:=hP.alloc (.cells #[(p:Int)] 186);have I:=hQ.alloc (.cells #[(p:Int)] 186);have D:=hR.alloc (.cells #[(p:Int)] 186);have q:=aa.new w 186 #[(p:Int)];have ge:Below B w (w.alloc (.cells #[(p:Int)] 186)):=(gC _ _).alloc (by have:=hP.lt;omega) _;have gi:=hP.lt;have gh:=hQ.lt;have gg:=hR.lt;(go_upto_region 5 with fail);generalize w.alloc (.cells #[(p:Int)] 186)=w1 at *;(have gl:P≠w.heap.size:=by omega);(have gk:Q≠w.heap.size:=by omega);(have gj:R≠w.heap.size:=by omega);generalize w.heap.size=T at *;have x0:=aw J;have x1:=aw I;have x2:=aw D;have x3:=aw q;have f0:=J.frozen 0;have f1:=I.frozen 0;have f2:=D.frozen 0;go_region;all_goals have z:aa ((((w1.setCell ⟨P,0,none⟩ (.pointer none)).setCell ⟨Q,0,none⟩ (.int .i64 (p:Int))).setCell ⟨R,0,none⟩ (.int .i64 3))).drew P 127 #[.pointer none]:=(((show aa (w1.setCell ⟨P,0,none⟩ (.pointer none)) P 127 #[.pointer none]by simpa using J.set_ 0 (.pointer none)).far (p:=⟨Q,0,none⟩) h (.int .i64 (p:Int))).far (p:=⟨R,0,none⟩) O (.int .i64 3)).drew;have y:aa ((((w1.setCell ⟨P,0,none⟩ (.pointer none)).setCell ⟨Q,0,none⟩ (.int .i64 (p:Int))).setCell ⟨R,0,none⟩ (.int .i64 3))).drew Q 3 #[(p:Int)]:=((show aa ((w1.setCell ⟨P,0,none⟩ (.pointer none)).setCell ⟨Q,0,none⟩ (.int .i64 (p:Int))) Q 3 #[(p:Int)]by simpa using(I.far (p:=⟨P,0,none⟩) h.symm (.pointer none)).set_ 0 (.int .i64 (p:Int))).far (p:=⟨R,0,none⟩) M (.int .i64 3)).drew;have x:aa ((((w1.setCell ⟨P,0,none⟩ (.pointer none)).setCell ⟨Q,0,none⟩ (.int .i64 (p:Int))).setCell ⟨R,0,none⟩ (.int .i64 3))).drew R 49 #[.int .i64 3]:=(show aa (((w1.setCell ⟨P,0,none⟩ (.pointer none)).setCell ⟨Q,0,none⟩ (.int .i64 (p:Int))).setCell ⟨R,0,none⟩ (.int .i64 3)) R 49 #[.int .i64 3]by simpa using((D.far (p:=⟨P,0,none⟩) O.symm (.pointer none)).far (p:=⟨Q,0,none⟩) M.symm (.int .i64 (p:Int))).set_ 0 (.int .i64 3)).drew;refine⟨rfl,_,rfl,.tuple #[],?_,rfl,rfl,z,y,x,(((ge.setCell (p:=⟨P,0,none⟩) gd (.pointer none)).setCell (p:=⟨Q,0,none⟩) gb (.int .i64 (p:Int))).setCell (p:=⟨R,0,none⟩) ga (.int .i64 3)).drew⟩;simp[results,results116,go_sem]
theorem FW(p q r:Addr)(w:World):
  CallsD prog 116 #[.pointer (some p),.pointer (some q),.pointer (some r)] .returning w fun e u' w'=>e=.returned (.tuple #[])/\u'=.returning/\w'=w:=by
 refine vM func116 rfl fun c₀ cs D=>?_;apply vW;apply qY;simp[wpOpsS,go_sem,recoverD,D,ntmps116,Exit.thenS];apply vW;apply qY;simp[wpOpsS,go_sem,Exit.thenS];refine wpS_cond (t:=false) (by simp[Act.eval,Array.replicate]) ?_;simp only[gX,kK];refine xq (wp_skip ?_);cases c₀
 simp_all[bodyPostS,results,results116]
def N0(Q:Exit->Act->World->Prop):Exit->Act->World->Prop:=fun x a w=>match x with
 | .normal=>Q .normal a w
 |_=>False
theorem IF{P:Program}{c:Code}{Q:Exit->Act->World->Prop}{a:Act}{w:World}(h:c.wp P (N0 Q) a w):c.wp P Q a w:=
 Code.wp_mono (fun e a w h=>by
  cases e with
  |normal=>exact h
  |_=>exact h.elim) h
def om(s0:ByteArray)(w:World)(r:tb)(e:Ending)(w':World):Prop:=
 match r with
 | .toks L=>∃(C:NsC)(X i:Nat),C.ns=fV s0/\e=.returned (.tuple #[X,.int .i64 0,.int .i64 0])/\ij w' X s0 i L/\w.heap.size<=X/\Below w w w'
 | .err p n=>e=.returned (.tuple #[.pointer none,.int .i64 p,.int .i64 n])/\Below w w w'
theorem Cs(A:Option Addr)(c:Nat)(s:ByteArray)(w:World)(hv:bR w A c s)(hT:fQ w)(ja:s.size<=10000000000000000):
  Calls prog 66 #[.slice A s.size c] w (om s w (ex s)):=by
 have jc:∀(fn:Fn)(first cap:Array Value)(w:World),(Instr.makeFunc fn first cap).run prog w=.ok (.func fn first cap) w:=fun _ _ _ _=>rfl;have gr:Below w w (((w.alloc (.cells #[.pointer none] 127)).alloc (.cells #[.int .i64 0] 3)).alloc (.cells #[.int .i64 0] 49)):=bel;have gq:aa (((w.alloc (.cells #[.pointer none] 127)).alloc (.cells #[.int .i64 0] 3)).alloc (.cells #[.int .i64 0] 49)) w.heap.size 127 #[.pointer none]:=((aa.new w _ _).alloc _).alloc _;have gp:aa (((w.alloc (.cells #[.pointer none] 127)).alloc (.cells #[.int .i64 0] 3)).alloc (.cells #[.int .i64 0] 49)) (w.heap.size+1) 3 #[.int .i64 0]:=(aa.new_at (by simp) _ _).alloc _;have gm:aa (((w.alloc (.cells #[.pointer none] 127)).alloc (.cells #[.int .i64 0] 3)).alloc (.cells #[.int .i64 0] 49)) (w.heap.size+2) 49 #[.int .i64 0]:=aa.new_at (by simp) _ _;have HW:=hid (fun w'(z:Below w w w')(hs:s.size<=65536)=>(hv.below z).wrong (hT.below z) (by omega));have hp:=hid (fun w'(z:Below w w w')=>(hv.below z).conv);have HT:=hid hT;generalize hO:ex s=O at *;have HO:=hid hO;clear hT hv hO;by_cases I:65536<s.size
 ·(have hm:decide ((65536:Int)<(s.size:Int))=true:=by rw[jB];omega);have hj:Hid (O=.err 65536 12):=hid (by rw[<-HO.out,ex,gL I]);have x0:=aw gq;have y0:=aw gp;have z0:=aw gm;have xf:=gq.frozen 0;have yf:=gp.frozen 0;have zf:=gm.frozen 0;clear I;(go_enter_defers func66,ntmps66);go_wp2_with fail;rw[hj.out];clear x0 y0 z0 xf yf zf;simp[bodyPostD,Leaves,results,results66,go_sem,om];exact bel
 (have g7:s.size<=65536:=by omega);have HW:=hid (fun w' z=>HW.out w' z g7);(have hm:decide ((65536:Int)<(s.size:Int))=false:=by rw[gH];omega);cases yk:mT s with
 |some p=>have hj:Hid (O=.err (p:Int) 2):=hid (by rw[<-HO.out,ex,gE I,yk]);rw[yk]at HW;(have jh:decide ((0:Int)<=(p:Int))=true:=by rw[jB];omega);clear HO yk I;(go_enter_defers func66,ntmps66);go_wp2_with fail;refine(HW.out _ gr).mono ?_;rintro e w1⟨rfl,J⟩;unfold su;(have ga:(((w.alloc (.cells #[.pointer none] 127)).alloc (.cells #[.int .i64 0] 3)).alloc (.cells #[.int .i64 0] 49)).heap.size=w.heap.size+3:=by simp);have gh:=gq.below J (by rw[ga];omega);have gn:=gp.below J (by rw[ga];omega);have gl:=gm.below J (by rw[ga];omega);have g0:=aE gr J;have x0:=aw gh;have y0:=aw gn;have z0:=aw gl;have xf:=gh.frozen 0;have yf:=gn.frozen 0;have zf:=gl.frozen 0;clear gq gp gm J gr ga;simp only;go_wp2_with fail;have M:aa (((w1.setCell ⟨w,0,none⟩ (.pointer none)).setCell ⟨w.heap.size+1,0,none⟩ (.int .i64 (p:Int))).setCell ⟨w.heap.size+1+1,0,none⟩ (.int .i64 2)) w.heap.size 127 #[.pointer none]:=((show aa (w1.setCell ⟨w,0,none⟩ (.pointer none)) w.heap.size 127 #[.pointer none]by simpa using gh.set_ 0 (.pointer none)).far (p:=⟨w.heap.size+1,0,none⟩) (by show w.heap.size≠w.heap.size+1;omega) (.int .i64 (p:Int))).far (p:=⟨w.heap.size+1+1,0,none⟩) (by show w.heap.size≠w.heap.size+1+1;omega) (.int .i64 2);have x:aa (((w1.setCell ⟨w,0,none⟩ (.pointer none)).setCell ⟨w.heap.size+1,0,none⟩ (.int .i64 (p:Int))).setCell ⟨w.heap.size+1+1,0,none⟩ (.int .i64 2)) (w.heap.size+1) 3 #[(p:Int)]:=(show aa ((w1.setCell ⟨w,0,none⟩ (.pointer none)).setCell ⟨w.heap.size+1,0,none⟩ (.int .i64 (p:Int))) (w.heap.size+1) 3 #[(p:Int)]by simpa using(gn.far (p:=⟨w,0,none⟩) (by show w.heap.size+1≠w.heap.size;omega) (.pointer none)).set_ 0 (.int .i64 (p:Int))).far (p:=⟨w.heap.size+1+1,0,none⟩) (by show w.heap.size+1≠w.heap.size+1+1;omega) (.int .i64 2);(have q:aa (((w1.setCell ⟨w,0,none⟩ (.pointer none)).setCell ⟨w.heap.size+1,0,none⟩ (.int .i64 (p:Int))).setCell ⟨w.heap.size+1+1,0,none⟩ (.int .i64 2)) (w.heap.size+2) 49 #[.int .i64 2]:=by simpa using((gl.far (p:=⟨w,0,none⟩) (by show w.heap.size+2≠w.heap.size;omega) (.pointer none)).far (p:=⟨w.heap.size+1,0,none⟩) (by show w.heap.size+2≠w.heap.size+1;omega) (.int .i64 (p:Int))).set_ 0 (.int .i64 2));have y:Below w w (((w1.setCell ⟨w,0,none⟩ (.pointer none)).setCell ⟨w.heap.size+1,0,none⟩ (.int .i64 (p:Int))).setCell ⟨w.heap.size+1+1,0,none⟩ (.int .i64 2)):=((g0.setCell (p:=⟨w,0,none⟩) (gA _) _).setCell (p:=⟨w.heap.size+1,0,none⟩) (jC _) _).setCell (p:=⟨w.heap.size+1+1,0,none⟩) (show w.heap.size<=w.heap.size+1+1 by omega) _;generalize((w1.setCell ⟨w,0,none⟩ (.pointer none)).setCell ⟨w.heap.size+1,0,none⟩ (.int .i64 (p:Int))).setCell ⟨w.heap.size+1+1,0,none⟩ (.int .i64 2)=w2 at *;clear x0 y0 z0 xf yf zf;have z0:=aw M;have z1:=aw x;have z2:w2.cell? ⟨w.heap.size+1+1,0,none⟩=some (.int .i64 2):=aw q;rw[hj.out];simp[bodyPostD,Leaves,results,results66,go_sem,z0,z1,z2,om];exact y
 |none=>
 have HS:Hid (EU (mn s (s.size+1) 0 [])=O):=hid (by rw[<-HO.out,ex,gE I,yk]);rw[yk]at HW;clear HO yk I;(go_enter_defers func66,ntmps66);go_wp2_with fail;refine(HW.out _ gr).mono ?_;rintro e w1⟨rfl,J⟩;unfold su;(have ga:(((w.alloc (.cells #[.pointer none] 127)).alloc (.cells #[.int .i64 0] 3)).alloc (.cells #[.int .i64 0] 49)).heap.size=w.heap.size+3:=by simp);have gh:=gq.below J (by rw[ga];omega);have gn:=gp.below J (by rw[ga];omega);have gl:=gm.below J (by rw[ga];omega);have hq:=J.size;rw[ga]at hq;have g0:=aE gr J;clear gq gp gm J gr ga;have ht:=hp.out _ g0;have x0:=aw (gh.alloc (.cells #[s,.int .i64 0,.slice none 0 0,.slice none 0 0] 131));have xf:=(gh.alloc (.cells #[s,.int .i64 0,.slice none 0 0,.slice none 0 0] 131)).frozen 0;go_wp2_with fail;(have M:aa ((w1.alloc (.cells #[s,.int .i64 0,.slice none 0 0,.slice none 0 0] 131)).setCell ⟨w,0,none⟩ (.pointer (some ⟨w1,0,none⟩))) w.heap.size 127 #[w1]:=by simpa using(gh.alloc _).set_ 0 _);have x:aa ((w1.alloc (.cells #[s,.int .i64 0,.slice none 0 0,.slice none 0 0] 131)).setCell ⟨w,0,none⟩ (.pointer (some ⟨w1,0,none⟩))) (w.heap.size+1) 3 #[.int .i64 0]:=(gn.alloc _).far (p:=⟨w,0,none⟩) (by show w.heap.size+1≠w.heap.size;omega) _;have q:aa ((w1.alloc (.cells #[s,.int .i64 0,.slice none 0 0,.slice none 0 0] 131)).setCell ⟨w,0,none⟩ (.pointer (some ⟨w1,0,none⟩))) (w.heap.size+2) 49 #[.int .i64 0]:=(gl.alloc _).far (p:=⟨w,0,none⟩) (by show w.heap.size+2≠w.heap.size;omega) _;have y:Below w w ((w1.alloc (.cells #[s,.int .i64 0,.slice none 0 0,.slice none 0 0] 131)).setCell ⟨w,0,none⟩ (.pointer (some ⟨w1,0,none⟩))):=(g0.alloc (by omega) _).setCell (gA _) _;have g3 :@ij ⟨[]⟩ ((w1.alloc (.cells #[s,.int .i64 0,.slice none 0 0,.slice none 0 0] 131)).setCell ⟨w,0,none⟩ (.pointer (some ⟨w1,0,none⟩))) w1.heap.size s 0 []:=
  @ij.mk ⟨[]⟩ _ _ _ _ _ ⟨.slice none 0 0,.slice none 0 0,(aa.new w1 _ _).far (p:=⟨w,0,none⟩) (by show w1.heap.size≠w.heap.size;omega) _,ii.nil _ _,ii.nil _ _,(fun g h=>by cases h),gA _⟩ (gT _) g7 (by simp)
 generalize(w1.alloc (.cells #[s,.int .i64 0,.slice none 0 0,.slice none 0 0] 131)).setCell ⟨w,0,none⟩ (.pointer (some ⟨w1,0,none⟩))=w2 at *;generalize w1.heap.size=X at *;clear gh gn gl g0 x0 xf ht hp HW;go_loopg [28] s.size (fun gg _ wr=>∃(i f:Nat)(l:List cz)(C:NsC),ij wr X s i l/\ol s f i l C.ns=fV s/\aa wr w.heap.size 127 #[X]/\aa wr (w.heap.size+1) 3 #[.int .i64 0]/\aa wr (w.heap.size+2) 49 #[.int .i64 0]/\Below w w wr /\
  EU (mn s f i l)=O/\lR i l/\s.size-i+1<=f/\s.size-i<=gg)
 case atStart=>exact⟨0,s.size+1,[],⟨[]⟩,g3,rfl,M,x,q,y,HS.out,⟨gA _,fun t h=>by cases h⟩,by omega,by omega⟩
 case round=>
  clear g3 M x q y;obtain⟨i,f,l,C,g2,gs,M,x,q,y,gj,gb,hf,jg⟩:=hrel;have jd:=g2.le;obtain⟨lv,nv,he⟩:=g2.out;obtain⟨x0,x1,x2,x3,-,-,-,-⟩:=ah he.blk;have y0:=aw M;obtain⟨f1,rfl⟩:∃f1,f=f1+1:=⟨f-1,by omega⟩;unfold mn at gj;unfold ol at gs;have ho:=hid gs;clear gs;by_cases hi:i<s.size
  ·rw[gL hi]at gj;(have hr:(i:Int)<(s.size:Int):=by omega);have g5:=hid gj;have g4:=hid (fun w'(z:Below wr wr w')(g8:Below w w w')=>DZ X s i l w' (g2.below z) (HT.out.below g8).tab hi gb);have g1:=hid (Cr s i l g7 hi gb);clear gj he gb;cases gd:mm s i l with
   |go j l'=>
    obtain⟨jf,je,gt⟩:=g1.out j l' gd;have HF:Hid (EU (mn s f1 j l')=O):=hid (by rw[<-g5.out,gd]);rw[gd]at g4;have h9:=hid gt;have hn:Hid (ol s f1 j l' (nn s i l j C.ns)=fV s):=hid (by have:=ho.out;rw[gL hi,gd]at this;exact this);clear gd g5 g1 gt;go_wp2_with fail;go_quiet (fail);have gu:=az (gC wr.heap.size wr) nq;have gi:=az y nq;have ge:=M.drewN nq;have gy:=x.drewN nq;have gw:=q.drewN nq;have y3:=aw ge;generalize wr.drewN nq=w3 at *;clear x0 x1 x2 x3 y0 M x q y;go_wp2_with fail;refine(g4.out _ gu gi).mono ?_;rintro e w4⟨rfl,g6,D⟩;go_wp2_with fail;go_roundg (s.size-j)
    case measure=>omega
    case rel=>exact⟨j,f1,l',⟨nn s i l j C.ns⟩,g6,hn.out,ge.below D (by omega),gy.below D (by omega),gw.below D (by omega),gi.trans (D.mono (by omega)),HF.out,h9.out,by omega,gA _⟩
   |bad p=>have HF:Hid (O=.err (p:Int) 3):=hid (by rw[<-g5.out,gd];rfl);rw[gd]at g4;clear gd g5 g1;go_wp2_with fail;go_quiet (fail);have gu:=az (gC wr.heap.size wr) nq;have gi:=az y nq;have ge:=M.drewN nq;have gy:=x.drewN nq;have gw:=q.drewN nq;have y3:=aw ge;generalize wr.drewN nq=w3 at *;clear x0 x1 x2 x3 y0 M x q y;go_wp2_with fail;refine(g4.out _ gu gi).mono ?_;rintro e w4⟨rfl,D⟩;have gz:=ge.below D (by omega);have gx:=gy.below D (by omega);have gv:=gw.below D (by omega);have hh:=gi.trans (D.mono (by omega));unfold dO;refine kZ (f:=116) (args:=#[w,.pointer (some ⟨w.heap.size+1,0,none⟩),.pointer (some ⟨w.heap.size+1+1,0,none⟩)]) (by simp) (by simp[go_sem]) ?_;refine(D0 w.heap.size w.heap.size (w.heap.size+1) (w.heap.size+2) p _ _ _ w4 gz gx gv (gA _) (by omega) (by omega) (by omega) (by omega) (by omega)).mono ?_;rintro e u' w5⟨rfl,rfl,hc,ha,g9,hg⟩;have z0:=aw hc;have z1:=aw ha;have z2:w5.cell? ⟨w.heap.size+1+1,0,none⟩=some (.int .i64 3):=aw g9;rw[HF.out];simp[Leaves,settle,results,results66,go_sem,z0,z1,z2,om];exact hh.trans hg
  ·rw[gE hi]at gj;have HF:=hid (show O=.toks (lN l (s.size:Int))from gj.symm);have h7:Hid (C.ns=fV s):=hid (by have:=ho.out;rw[gE hi]at this;exact this);(have hl:l.length+1<=65537:=by have:=gb.1;omega);(have hr:¬ (i:Int)<(s.size:Int):=by omega);have hk:=fun t h=>(gb.2 t h).1;have h8:=hid (fun w'(z:Below wr wr w')(g8:Below w w w')=>ux X s i l (s.size:Int) hl w' (g2.below z) (HT.out.below g8).tab hk);clear gj he hk gb;go_wp2_with fail;go_quiet (fail);have gu:=az (gC wr.heap.size wr) nq;have gi:=az y nq;have ge:=M.drewN nq;have gy:=x.drewN nq;have gw:=q.drewN nq;have y3:=aw ge;have jb:(wr.drewN nq).cell? ⟨X,0,none⟩=some (.string s):=x0;generalize wr.drewN nq=w3 at *;clear x0 x1 x2 x3 y0 M x q y;go_wp2_with fail;refine IF ?_;go_region_law (first
    |(go_simp;go_at_call 118;refine(h8.out _ gu.drew gi.drew).mono ?_;rintro e w4⟨rfl,g6,D⟩;have gz:=ge.drew.below D (by omega);have y4:=aw gz))
   all_goals unfold N0;have gx:=gy.drew.below D (by omega);have gv:=gw.drew.below D (by omega);have hh:=gi.drew.trans (D.mono (by omega));have yf:=gz.frozen 0;have u4:=aw gx;have uf:=gx.frozen 0;have v4:=aw gv;have vf:=gv.frozen 0;go_wp2_with fail;(have hc:aa (w4.setCell ⟨w,0,none⟩ (.pointer (some ⟨X,0,none⟩))) w.heap.size 127 #[X]:=by simpa using gz.set_ 0 (.pointer (some ⟨X,0,none⟩)));have ha:=gx.far (p:=⟨w,0,none⟩) (by show w.heap.size+1≠w.heap.size;omega) (.pointer (some ⟨X,0,none⟩));have g9:=gv.far (p:=⟨w,0,none⟩) (by show w.heap.size+2≠w.heap.size;omega) (.pointer (some ⟨X,0,none⟩));have h4:∀b,X<=b->(w4.setCell ⟨w,0,none⟩ (.pointer (some ⟨X,0,none⟩))).heap[b]? = w4.heap[b]? :=fun b hb=>gF w4 ⟨w,0,none⟩ _ b (by show b≠w.heap.size;omega);have hg:=hh.setCell (p:=⟨w,0,none⟩) (gA _) (.pointer (some ⟨X,0,none⟩));generalize w4.setCell ⟨w,0,none⟩ (.pointer (some ⟨X,0,none⟩))=w5 at *;(have hz:aa (w5.setCell ⟨w.heap.size+1,0,none⟩ (.int .i64 0)) (w.heap.size+1) 3 #[.int .i64 0]:=by simpa using ha.set_ 0 (.int .i64 0));have h1:=hc.far (p:=⟨w.heap.size+1,0,none⟩) (by show w.heap.size≠w.heap.size+1;omega) (.int .i64 0);have hw:=g9.far (p:=⟨w.heap.size+1,0,none⟩) (by show w.heap.size+2≠w.heap.size+1;omega) (.int .i64 0);have h3:∀b,X<=b->(w5.setCell ⟨w.heap.size+1,0,none⟩ (.int .i64 0)).heap[b]? = w4.heap[b]? :=fun b hb=>(gF w5 ⟨w.heap.size+1,0,none⟩ _ b (by show b≠w.heap.size+1;omega)).trans (h4 b hb);have h6:=hg.setCell (p:=⟨w.heap.size+1,0,none⟩) (jC _) (.int .i64 0);generalize w5.setCell ⟨w.heap.size+1,0,none⟩ (.int .i64 0)=w6 at *;(have hu:aa (w6.setCell ⟨w.heap.size+1+1,0,none⟩ (.int .i64 0)) (w.heap.size+2) 49 #[.int .i64 0]:=by simpa using hw.set_ 0 (.int .i64 0));have h0:=h1.far (p:=⟨w.heap.size+1+1,0,none⟩) (by show w.heap.size≠w.heap.size+1+1;omega) (.int .i64 0);have hy:=hz.far (p:=⟨w.heap.size+1+1,0,none⟩) (by show w.heap.size+1≠w.heap.size+1+1;omega) (.int .i64 0);have h2:∀b,X<=b->(w6.setCell ⟨w.heap.size+1+1,0,none⟩ (.int .i64 0)).heap[b]? = w4.heap[b]? :=fun b hb=>(gF w6 ⟨w.heap.size+1+1,0,none⟩ _ b (by show b≠w.heap.size+1+1;omega)).trans (h3 b hb);have h5:=h6.setCell (p:=⟨w.heap.size+1+1,0,none⟩) (show w.heap.size<=w.heap.size+1+1 by omega) (.int .i64 0);generalize w6.setCell ⟨w.heap.size+1+1,0,none⟩ (.int .i64 0)=w7 at *;have g3:=g6.keep h2;refine kZ (f:=116) (args:=#[w,.pointer (some ⟨w.heap.size+1,0,none⟩),.pointer (some ⟨w.heap.size+1+1,0,none⟩)]) (by simp) (by simp[go_sem]) ?_;refine(FW _ _ _ _).mono ?_;rintro e u' w8⟨rfl,rfl,rfl⟩;have z0:=aw h0;have z1:=aw hy;have z2:w8.cell? ⟨w.heap.size+1+1,0,none⟩=some (.int .i64 0):=aw hu;clear y4 u4 v4 yf uf vf;rw[HF.out];simp[Leaves,settle,results,results66,go_sem,z0,z1,z2,om];exact⟨C,h7.out,⟨i,g3⟩,by omega,h5⟩
theorem ii.reads{B:Nat}{w:World}{v:Value}{l:List cz}(h:ii B w v l):∃A c,v=.slice A l.length c/\l.length<=c/\aA w w.heap.size 3 A l.length (l.flatMap mc):=by
 obtain⟨A,c,I,J⟩:=h.form;refine⟨A,c,I,J,?_⟩;by_cases x:l.length=0
 ·exact⟨by rw[iF dX],fun O=>by omega⟩
 ·obtain⟨g,c',D,q,M⟩:=qX h (by omega);rw[I]at D;injection D with e1 e2 e3;subst e1 e3;exact aA.of_own (I▸h:w.ownsRow B _ 3 (.slice (some ⟨g,0,none⟩) l.length c) l.length (l.flatMap mc))
theorem FX{w:World}{A:Option Addr}{B n R:Nat}{xs:List Value}(h:aA w B 3 A n xs)(q:B<=R):bK (· < R) w 3 A n xs:=by
 refine⟨h.1,fun M=>?_⟩;obtain⟨ad,x,hb,J⟩:=h.2 M;(have O:0<xs.length:=by rw[h.1];omega);have y:=J 0 xs[0] (gO O);have D:=mS (show w.cell? ad=some xs[0]from y);obtain⟨b,o,s⟩:=ad;(have I:s=none:=by simpa using D);subst I;refine⟨b,o,x,jY hb q,fun j u hu=>?_⟩;have:=J j u hu
 rwa [iU]at this
theorem mJ{s:ByteArray}{p n:Int}(h:ex s=.err p n):n=12\/n=2\/n=3:=by
 unfold ex at h;split at h
 ·injection h with _ h;exact .inl h.symm
 ·split at h
  ·injection h with _ h;exact .inr (.inl h.symm)
  ·cases D:mn s (s.size+1) 0 []with
   |ok l=>rw[D]at h;cases h
   |bad q=>rw[D]at h;injection h with _ h;exact .inr (.inr h.symm)
def M6(w:World)(r:tb)(e:Ending)(w':World):Prop:=
 match r with
 | .toks L=>∃A cp,e=.returned (.tuple #[.slice A L.length cp,.int .i64 0,.int .i64 0])/\L.length<=cp/\L.length<=65537/\aA w' w'.heap.size 3 A L.length (L.flatMap mc)/\Below w w w'
 | .err p n=>e=.returned (.tuple #[.slice none 0 0,.int .i64 p,.int .i64 n])/\Below w w w'
theorem td(A:Option Addr)(c:Nat)(s:ByteArray)(w:World)(y:bR w A c s)(hT:fQ w)(M:s.size<=10000000000000000):
  Calls prog 41 #[.slice A s.size c] w (M6 w (ex s)):=by
 have h:=hid (Cs A c s w y hT M);clear y hT;cases O:ex s with
 |toks L=>rw[O]at h;clear O;(go_enter func41,ntmps41);go_wp2_with fail;refine h.out.mono ?_;rintro e w1⟨C,X,i,hC,rfl,D,hX,x⟩;obtain⟨lv,nv,I⟩:=D.out;obtain⟨x0,x1,x2,x3,-,-,-,-⟩:=ah I.blk;obtain⟨A',cp,rfl,q,z⟩:=I.toks.reads;have J:=D.few;clear D I h hC;go_wp2_with fail;go_ret3;exact⟨A',cp,rfl,q,J,z,x⟩
 |err p n=>have hn:=mJ O;(have ga:(n != 0)=true:=by rw[kE];omega);rw[O]at h;clear O hn;(go_enter func41,ntmps41);go_wp2_with fail;refine h.out.mono ?_;rintro e w1⟨rfl,x⟩;go_wp2_with fail;go_ret3;exact⟨rfl,x⟩
def FY(s:ByteArray)(w:World)(r:tb)(e:Ending)(w':World):Prop:=
 match r with
 | .toks _=>∃A cp,e=.returned (.slice A (fV s).length cp)/\(fV s).length<=cp/\aA w' w'.heap.size 3 A (fV s).length ((fV s).flatMap mc)/\Below w w w'
 | .err _ _=>e=.returned (.slice none 0 0)/\Below w w w'
theorem FZ(A:Option Addr)(c:Nat)(s:ByteArray)(w:World)(x:bR w A c s)(hT:fQ w)(M:s.size<=10000000000000000):
  Calls prog 42 #[.slice A s.size c] w (FY s w (ex s)):=by
 have h:=hid (Cs A c s w x hT M);clear x hT;cases O:ex s with
 |toks L=>rw[O]at h;clear O;(go_enter func42,ntmps42);go_wp2_with fail;refine h.out.mono ?_;rintro e w1⟨C,X,i,z,rfl,I,hX,q⟩;obtain⟨lv,nv,D⟩:=I.out;obtain⟨x0,x1,x2,x3,-,-,-,-⟩:=ah D.blk;obtain⟨A',cp,rfl,J,y⟩:=D.notes.reads;rw[z]at J y x3;clear I D h z;go_wp2_with fail;go_ret;exact⟨A',cp,rfl,J,y,q⟩
 |err p n=>have hn:=mJ O;(have ga:(n != 0)=true:=by rw[kE];omega);rw[O]at h;clear O hn;(go_enter func42,ntmps42);go_wp2_with fail;refine h.out.mono ?_;rintro e w1⟨rfl,q⟩;go_wp2_with fail;go_ret;exact⟨rfl,q⟩
theorem rB(s:ByteArray)(M:s.size<=65536):∀(f i:Nat)(l:List cz)(L:List cz),mn s f i l=.ok L->lR i l->i<=s.size->lR (s.size+1) L
 |0,_,_,_,h,_,_=>by cases h
 | f+1,i,l,L,h,D,y=>by
  rw[mn]at h;by_cases J:i<s.size
  ·rw[gL J]at h;cases I:mm s i l with
   |go j l'=>rw[I]at h;obtain⟨_,x,O⟩:=Cr s i l M J D j l' I;exact rB s M f j l' L h O x
   |bad q=>rw[I]at h;cases h
  ·rw[gE J]at h;injection h with h;subst h;exact D.line (by omega) _
theorem fz{s:ByteArray}{L:List cz}(h:ex s=.toks L):s.size<=65536/\L.length<=65537/\∀t∈L,Ou t:=by
 unfold ex at h;split at h
 ·cases h
 ·split at h
  ·cases h
  ·cases D:mn s (s.size+1) 0 []with
   |ok l=>rw[D]at h;injection h with h;subst h;have:=rB s (by omega) _ _ _ _ D ⟨gA _,fun t h=>by cases h⟩ (gT _);exact⟨by omega,by have:=this.1;omega,this.2⟩
   |bad q=>rw[D]at h;cases h
def mq(c:Nat):Int:=match dg c with|some d=>(d:Int)|none =>-1
theorem eM(c:Nat)(hc:c<2000000)(w:World):Calls prog 179 #[.int .i32 (c:Int)] w fun e w'=>e=.returned (.int .i64 (mq c))/\w=w':=by
 by_cases J:48<=c/\c<=57
 ·have I:Hid (mq c=(c:Int)-48):=hid (by unfold mq dg;rw[gL J];simp only;omega);(have h:decide ((48:Int)<=(c:Int))=true:=by rw[jB];omega);(have O:decide ((c:Int)<=(57:Int))=true:=by rw[jB];omega);have z:IntKind.i32.wrap ((c:Int)-48)=(c:Int)-48:=xe _ (by omega);have y:IntKind.i64.wrap ((c:Int)-48)=(c:Int)-48:=gQ _ (by omega);(go_enter func179,ntmps179);go_wp2_with fail;go_ret;exact⟨(by rw[I.out];first|done|rfl),rfl⟩
 (have D:(decide ((48:Int)<=(c:Int))&&decide ((c:Int)<=(57:Int)))=false:=by rw[Bool.and_eq_false_iff,gH,gH];omega);by_cases M:97<=c/\c<=102
 ·have I:Hid (mq c=(c:Int)-97+10):=hid (by unfold mq dg;rw[gE J,gL M];simp only;omega);(have e0:decide ((48:Int)<=(c:Int))=true:=by rw[jB];omega);(have x:decide ((c:Int)<=(57:Int))=false:=by rw[gH];omega);(have h:decide ((97:Int)<=(c:Int))=true:=by rw[jB];omega);(have O:decide ((c:Int)<=(102:Int))=true:=by rw[jB];omega);have z:IntKind.i32.wrap ((c:Int)-97)=(c:Int)-97:=xe _ (by omega);have y:IntKind.i64.wrap ((c:Int)-97)=(c:Int)-97:=gQ _ (by omega);have q3:IntKind.i64.wrap ((c:Int)-97+10)=(c:Int)-97+10:=gQ _ (by omega);clear D;(go_enter func179,ntmps179);go_wp2_with fail;go_ret;exact⟨(by rw[I.out];first|done|rfl),rfl⟩
 by_cases q:65<=c/\c<=70
 ·have I:Hid (mq c=(c:Int)-65+10):=hid (by unfold mq dg;rw[gE J,gE M,gL q];simp only;omega);(have e0:decide ((48:Int)<=(c:Int))=true:=by rw[jB];omega);(have x:decide ((c:Int)<=(57:Int))=false:=by rw[gH];omega);(have h:decide ((97:Int)<=(c:Int))=false:=by rw[gH];omega);(have O:decide ((65:Int)<=(c:Int))=true:=by rw[jB];omega);(have e3:decide ((c:Int)<=(70:Int))=true:=by rw[jB];omega);have z:IntKind.i32.wrap ((c:Int)-65)=(c:Int)-65:=xe _ (by omega);have y:IntKind.i64.wrap ((c:Int)-65)=(c:Int)-65:=gQ _ (by omega);have q3:IntKind.i64.wrap ((c:Int)-65+10)=(c:Int)-65+10:=gQ _ (by omega);clear D;(go_enter func179,ntmps179);go_wp2_with fail;go_ret;exact⟨(by rw[I.out];first|done|rfl),rfl⟩
 ·have I:Hid (mq c = -1):=hid (by unfold mq dg;rw[gE J,gE M,gE q]);clear D;cases h:decide ((48:Int)<=(c:Int))<;>cases O:decide ((c:Int)<=(57:Int))<;>cases e3:decide ((97:Int)<=(c:Int))<;>cases e4:decide ((c:Int)<=(102:Int))<;>cases e5:decide ((65:Int)<=(c:Int))<;>cases e6:decide ((c:Int)<=(70:Int));all_goals
   first
    |(exfalso;simp only[jB,gH]at h O e3 e4 e5 e6;omega)
    |(clear J M q;(go_enter func179,ntmps179);go_wp2_with fail;go_ret;exact⟨(by rw[I.out];first|done|rfl),rfl⟩)
def o5(B:Nat)(w:World)(v:Value)(l:List Nat):Prop:=w.ownsRow B 3 1 v l.length (l.map fun(d:Nat)=>Value.int .i64 (d:Int))
def D3(B:Nat)(w:World)(v:Value)(l:List UInt8):Prop:=w.ownsRow B 5 1 v l.length (l.map fun c=>Value.int .u8 (c.toNat:Int))
theorem Cw{B:Nat}{w w':World}{e:TypeId}{n:Nat}{v:Value}{xs:List Value}(h:w.ownsRow B e 1 v n xs)(M:∀b,B<=b->b<w.heap.size->w'.heap[b]? = w.heap[b]?):w'.ownsRow B e 1 v n xs:=by
 refine⟨h.1,?_⟩;rcases h.2 with O|⟨g,cap,cur,e,J,I,r⟩
 ·exact .inl O
 ·refine .inr ⟨g,cap,cur,e,J,?_,r⟩;have D:g<w.heap.size:=by
   rcases kN g w.heap.size with D|hge
   ·exact D
   ·rw[kH hge]at I;cases I
  exact(M g J D).trans I
theorem oM{B:Nat}{w:World}{e:TypeId}{n:Nat}{v:Value}{xs:List Value}(h:w.ownsRow B e 1 v n xs):∃A c,v=.slice A n c/\n<=c:=by
 rcases h.2 with⟨rfl,I⟩|⟨g,cap,cur,rfl,_,_,D,_⟩
 ·exact⟨none,0,by rw[I],by omega⟩
 ·exact⟨_,cap,rfl,D⟩
theorem Na:(prog.info? 3).map (fun i=>(i.zero,i.size,i.bytes))=some (some (.int .i64 0),1,8):=by kernel_rfl
theorem infoByte:(prog.info? 5).map (fun i=>(i.zero,i.size,i.bytes))=some (some (.int .u8 0),1,1):=by kernel_rfl
theorem AX{ops:Array Oper}{rest:List Oper}{o:Oper}{a:Act}{Q:Exit->Act->World->Prop}(q:o.guard=none)(s x:Operand)
  (ho:o.op=.call { callee:=.builtin .append,args:=#[s,x],argTypes:=#[152,152] })
  (B:Nat)(w1:World)(u:Value)(l:List Nat)(d:Nat)(D:Int)(hs:a.eval s=u)(S:Nat)(z:a.eval x=.slice (some ⟨S,0,none⟩) 1 1)(hS:w1.heap.size=S)(hD:D=(d:Int))
  (y:o5 B w1 u l)(hB:B<=w1.heap.size)(hl:l.length<=1000000)
  (h:∀g c w2,o5 B w2 (.slice (some ⟨g,0,none⟩) (l.length+1) c) (l++[d])->Below B w1 w2->wpList prog ops Q rest (a.put o.dst (.slice (some ⟨g,0,none⟩) (l.length+1) c)) w2):
  wpList prog ops Q (o::rest) a (w1.alloc (.cells #[D] 3)):=by
 subst hS hD;refine vJ q fun _ hK=>?_;obtain⟨i0,hi,O,M,J⟩:=qr Na;refine vE _ s x 152 ho B 3 i0 _ 1 8 underlying152 hi O M J rfl (by omega) u l.length _ hs (kQ y _) ⟨w1,0,none⟩ 1 1 [.int .i64 (d:Int)] z rfl
  (qQ (cs:=#[(d:Int)]) (kJ _ _)) (by simp[Value.oneCell']) (by omega) (by unfold maxLen;omega) (by omega) (by rw[gP];omega) _ rfl ?_
 intro g c w2 hown1 I hat _;refine hK _ _ (h g c w2 ?_ ?_)
 ·unfold o5;rw[kW,gJ];exact hown1
 ·have h1:=(gC B w1).alloc hB (.cells #[(d:Int)] 3);exact h1.trans ⟨I.os,I.tape,I.output,I.size,fun k hk=>I.block k (by rw[gP];omega) (fun e=>by have:=(qA y k e.symm).1;omega)⟩
theorem rD{ops:Array Oper}{rest:List Oper}{o:Oper}{a:Act}{Q:Exit->Act->World->Prop}(q:o.guard=none)(s x:Operand)
  (ho:o.op=.call { callee:=.builtin .append,args:=#[s,x],argTypes:=#[22,22] })
  (B:Nat)(w1:World)(u:Value)(l:List UInt8)(d:UInt8)(D:Int)(hs:a.eval s=u)(S:Nat)(z:a.eval x=.slice (some ⟨S,0,none⟩) 1 1)(hS:w1.heap.size=S)(hD:D=(d.toNat:Int))
  (y:D3 B w1 u l)(hB:B<=w1.heap.size)(hl:l.length<=1000000)
  (h:∀g c w2,D3 B w2 (.slice (some ⟨g,0,none⟩) (l.length+1) c) (l++[d])->Below B w1 w2->wpList prog ops Q rest (a.put o.dst (.slice (some ⟨g,0,none⟩) (l.length+1) c)) w2):
  wpList prog ops Q (o::rest) a (w1.alloc (.cells #[.int .u8 D] 5)):=by
 subst hS hD;refine vJ q fun _ hK=>?_;obtain⟨i0,hi,O,M,J⟩:=qr infoByte;refine vE _ s x 22 ho B 5 i0 _ 1 1 underlying22 hi O M J rfl (by omega) u l.length _ hs (kQ y _) ⟨w1,0,none⟩ 1 1 [.int .u8 (d.toNat:Int)] z rfl
  (qQ (cs:=#[.int .u8 (d.toNat:Int)]) (kJ _ _)) (by simp[Value.oneCell']) (by omega) (by unfold maxLen;omega) (by omega) (by rw[gP];omega) _ rfl ?_
 intro g c w2 hown1 I hat _;refine hK _ _ (h g c w2 ?_ ?_)
 ·unfold D3;rw[kW,gJ];exact hown1
 ·have h1:=(gC B w1).alloc hB (.cells #[.int .u8 (d.toNat:Int)] 5);exact h1.trans ⟨I.os,I.tape,I.output,I.size,fun k hk=>I.block k (by rw[gP];omega) (fun e=>by have:=(qA y k e.symm).1;omega)⟩
theorem D4(c:Nat)(I:0<c)(h:c<100):fE c=c%10::fE (c/10):=by
 unfold fE;by_cases D:c<10
 ·rw[gE (by omega),gL D,Nat.mod_eq_of_lt D,gL (by omega)]
 ·rw[gE (by omega),gE D,gE (by omega),gL (by omega)]
theorem D5:fE 0=[]:=rfl
theorem II(c:Nat)(h:c<100):∀x∈fE c,x<=9:=by
 unfold fE;intro x D;split at D
 ·cases D
 ·split at D
  ·(obtain rfl:x=c:=by simpa using D);omega
  ·rcases List.mem_cons.1 D with rfl|D
   ·omega
   ·(obtain rfl:x=c/10:=by simpa using D);omega
theorem F4(c:Nat):(fE c).length<=2:=by
 unfold fE;split
 ·simp
 ·split<;>simp
theorem Cy(f:Nat)(I:f<=16):∀(l:List Nat)(m:Nat),(∀x∈l,x<=9)->m<=15->∀x∈dR f l m,x<=9
 |[],m,_,M,x,D=>II m (by omega) x D
 |y::r,m,hd,M,x,D=>by
  have J:=hd y (vV);have hb:y*f<=9*16:=Nat.mul_le_mul J I;rw[dR]at D;rcases List.mem_cons.1 D with rfl|D
  ·omega
  ·exact Cy f I r _ (fun z hz=>hd z (vu _ hz)) (by omega) x D
theorem sG(f:Nat):∀(l:List Nat)(m:Nat),(dR f l m).length<=l.length+2
 |[],m=>by rw[dR];have:=F4 m;simp;omega
 |y::r,m=>by rw[dR,gI,gI];have:=sG f r ((y*f+m)/10);omega
theorem F5(B:Nat)(v:Value)(l:List Nat)(f m:Nat)(w:World)(M:o5 B w v l)(hB:B<=w.heap.size)(hd:∀x∈l,x<=9)(hf:f<=16)(hm:m<=15)(hl:l.length<=1000):
  Calls prog 180 #[v,(f:Int),(m:Int)] w fun e w'=>∃v',e=.returned v'/\o5 B w' v' (dR f l m)/\Below B w w':=by
 obtain⟨A,cp,rfl,g0⟩:=oM M;obtain⟨T,hT⟩:∃T,T=dR f l m:=⟨_,rfl⟩;rw[<-hT];have HT:=hid hT;(have g2:T.length<=1002:=by rw[hT];have:=sG f l m;omega);clear hT;(go_enter func180,ntmps180);go_wp2_with fail;go_loopg [2,7,8,11] l.length (fun gg u2 _ _ u11 wr=>∃(i c:Nat)(done:List Nat),i<=l.length/\l.length-i<=gg/\u2=.int .i64 (c:Int)/\u11=.int .i64 (i:Int)/\done.length=i/\o5 B wr (.slice A l.length cp) (done++l.drop i)/\Below B w wr/\done++dR f (l.drop i) c=T/\c<=15)
 case atStart=>exact⟨0,m,[],gT _,by omega,rfl,rfl,rfl,M,gC _ _,HT.out.symm,hm⟩
 case round=>
  clear M hm;obtain⟨i,c,done,hi,gx,rfl,rfl,gm,M,D,hq,hc⟩:=hrel;have HO:=hid M;have z:=hid hq;have I:=hid gm;clear M hq gm;by_cases yk:i<l.length
  ·(have gj:(i:Int)<(l.length:Int):=by omega);(have g4:(0:Int)<=(i:Int):=by omega);have ga:=jX yk;have ge:=hd _ (jF yk);generalize l[i]=x at *;have gt:=hid ga;have J:=HO.out;rw[ga]at J;clear ga;obtain⟨g,c',hv,gp,gw⟩:=qX J (by rw[gJ,gI];omega);(have q:(done++x::l.drop (i+1)).length=l.length:=by rw[gJ,gI,jE,I.out];omega);injection hv with e1 e2 e3;subst e1 e3;unfold o5 at J;rw[q]at J;have gb:=qG J i (by omega);have gy:=World.ownsRow.frozenAt J i;(have y:((done++x::l.drop (i+1)).map fun(d:Nat)=>Value.int .i64 (d:Int))[i]? = some (.int .i64 (x:Int)):=by rw[kW,vd (by rw[jN,I.out];exact gA _)];simp[I.out]);rw[y]at gb;have hp:x*f<=9*16:=Nat.mul_le_mul ge hf;(have q1:IntKind.i64.wrap ((x:Int)*(f:Int))=((x*f:Nat):Int):=by rw[show(x:Int)*(f:Int)=((x*f:Nat):Int)by simp];exact gQ _ (by omega));have HX:=hid (show dR f (l.drop i) c=(x*f+c)%10::dR f (l.drop (i+1)) ((x*f+c)/10)by rw[gt.out,dR]);generalize x*f=p at *;have q2:IntKind.i64.wrap ((p:Int)+(c:Int))=(p:Int)+(c:Int):=gQ _ (by omega);have gh:=World.ownsRow.stored J i (.int .i64 (((p:Int)+(c:Int))%10));(have h:o5 B (wr.setCell ⟨g,i,none⟩ (.int .i64 (((p:Int)+(c:Int))%10))) (.slice (some ⟨g,0,none⟩) l.length cp) ((done++[(p+c)%10])++l.drop (i+1)):=by have h1:=gh.1;(have e:((done++x::l.drop (i+1)).map fun(d:Nat)=>Value.int .i64 (d:Int)).set i (.int .i64 (((p:Int)+(c:Int))%10))=((done++[(p+c)%10])++l.drop (i+1)).map fun(d:Nat)=>Value.int .i64 (d:Int):=by rw[show((p:Int)+(c:Int))%10=(((p+c)%10:Nat):Int)by omega];rw[kW,List.set_append_right _ _ (by rw[jN,I.out];exact gA _)];simp[I.out]);rw[e]at h1;unfold o5;rw[show((done++[(p+c)%10])++l.drop (i+1)).length=l.length by rw[gJ,gJ,jE,I.out];simp;omega];exact h1);have gd:Below B w (wr.setCell ⟨g,i,none⟩ (.int .i64 (((p:Int)+(c:Int))%10))):=D.setCell (by exact gp) _;have gs:=hid h;have HI:=hid (show(((p:Int)+(c:Int))/10)=(((p+c)/10:Nat):Int)by omega);(have gi:(p+c)/10<=15:=by omega);clear gh h J y ge q e2;go_wp2_with fail;go_roundg (l.length-(i+1))
   case measure=>omega
   case rel=>exact⟨i+1,(p+c)/10,done++[(p+c)%10],by omega,gA _,by rw[HI.out],by go_num,by rw[gJ,I.out];rfl,gs.out,gd,by rw[<-z.out,HX.out,qS];rfl,gi⟩
  ·(have gj:¬ (i:Int)<(l.length:Int):=by omega);have O:Hid (done++fE c=T):=hid (by rw[<-z.out,jZ (by omega),dR]);have gn:Hid (o5 B wr (.slice A l.length cp) done):=hid (by have:=HO.out;rw[jZ (by omega),vy]at this;exact this);(have gl:done.length=l.length:=by have:=I.out;omega);have g5:=hid gl;clear z HO I gl;rename World=>wo;go_wp2_with fail;go_loopg [0,2] c (fun gg u0 u2 wr=>∃(L:List Nat)(d:Nat),o5 B wr u0 L/\u2=.int .i64 (d:Int)/\L++fE d=T/\Below B w wr/\d<=15/\d<=gg)
   case atStart=>exact⟨done,c,gn.out,rfl,O.out,D,hc,gA _⟩
   case round=>
    clear gn O D hc;obtain⟨L,d,M,rfl,hq,D,gu,gz⟩:=hrel;have HO:=hid M;have z:=hid hq;obtain⟨A1,c1,hu,g1⟩:=oM M;clear M hq;subst hu;by_cases gq:0<d
    ·(have gv:(0:Int)<(d:Int):=by omega);have O:=hid (show(L++[d%10])++fE (d/10)=T by rw[<-z.out,D4 d gq (by omega),qS];rfl);(have g3:L.length<=1002:=by have:=qD List.length z.out;rw[gJ]at this;omega);have HI:=hid (show((d:Int)/10)=((d/10:Nat):Int)by omega);have HM:=hid (show((d:Int)%10)=((d%10:Nat):Int)by omega);clear z;go_wp2_with (at_builtin;refine AX rfl (.tmp 31) (.tmp 34) rfl B _ _ L (d%10) _ rfl _ rfl rfl HM.out HO.out (by have:=D.size;omega) (by omega) ?_;intro g c w2 gr gd);go_roundg (d/10)
     case measure=>omega
     case rel=>exact⟨L++[d%10],d/10,gr,by rw[HI.out],O.out,D.trans gd,by omega,gA _⟩
    ·(obtain rfl:d=0:=by omega);have HL:Hid (L=T):=hid (by rw[<-z.out,D5,vy]);go_wp2_with fail;go_ret;exact⟨_,rfl,by rw[<-HL.out];exact HO.out,D⟩
end
end Go.Proofs.YtcoiialmdncpfaaGreatDoor
