/-
  Parts of the proof: Shelf5 Sstep Pwrong Bytes Scatch Sscan Scan2 Ldig Ldigits. By an AI agent.
-/
import Derived.Test.YtiebcdeafofgdaaGreatDoorJ00
import Derived.Test.YtiebcdeafofgdaaGreatDoorJ07
import Derived.Test.YtiebcdeafofgdaaGreatDoorJ08
import Derived.Test.YtiebcdeafofgdaaGreatDoorJ02
import Derived.Lib.SlBytesRow
import Derived.Shelf.Unicode.DecodeSlow
import Derived.Lib.BufferRead
import Derived.BigQuiet
import Derived.Defers
import Derived.Recover
import Derived.Deep.RegionLaw
import Derived.Maps.Own
import Derived.Maps.OwnSet
import Derived.Maps.Views
set_option maxRecDepth 100000
set_option maxHeartbeats 8000000
namespace Go.Proofs.YtiebcdeafofgdaaGreatDoor
section
open Go.RowKit Go.Lib Go.Proofs
theorem gL:type_of% @List.append_assoc:=@List.append_assoc
theorem kG:type_of% @List.append_nil:=@List.append_nil
theorem kT:type_of% @Go.leaves_cons:=@Go.leaves_cons
theorem qO:type_of% @Go.wpS_region:=@Go.wpS_region
theorem vy:type_of% @Go.callsD_of_wpS:=@Go.callsD_of_wpS
theorem vD:type_of% @Go.wpS_seq:=@Go.wpS_seq
structure mH(w:World):Prop where
 tab:dk w
 u8:Lib.Utf8Tabs 0 1 w
theorem mH.below{w w':World}(h:mH w)(hb:Below w w w'):mH w':=⟨h.tab.below hb,Go.Proofs.Utf8Tabs_below h.u8 hb⟩
theorem AC(g o c j:Nat)(s:ByteArray)(w:World)(hT:mH w)(hb:Lib.Bytes w g o s)(I:j<s.size):
  Calls Tryz.prog 94 #[.slice (some ⟨g,o+j,none⟩) (s.size-j) (c-j)] w fun e w'=>e=.returned (.tuple #[.int .i32 (Utf8.decode s j).1,.int .i64 (Utf8.decode s j).2])/\Below w w w':=by(have D:(s.extract j s.size).size=s.size-j:=by rw[jT];omega);have h:=Any7.utf8_DecodeRune Tryz.laysDecode (s.extract j s.size) g (o+j) (c-j) w hT.u8 (fun m hm=>by rw[D]at hm;rw[wM,ie,show o+j+m=o+(j+m)by omega,hb (j+m) (by omega)];(have:(s[j+m]'(by omega)).toNat=aa s (j+m):=by unfold aa;rw[gN,gQ (by show j+m<s.data.toList.length;have:s.data.toList.length=s.size:=rfl;omega)];rfl);rw[this]);rw[D]at h;(have hd:Lib.decodeGo (s.extract j s.size)=Utf8.decode s j:=by unfold Lib.decodeGo;rw[gA (by rw[D];omega),C6,jP]);rw[hd]at h;exact h
theorem wN(s old new:ByteArray)(w:World)(hT:dk w)(hs:s.size<=65536)(J:1<=old.size)(D:new.size=0):
  Calls Tryz.prog 116 #[.string s,.string old,.string new] w fun e w'=>
   e=.returned (.string ⟨(Lib.replaceAll s.data.toList old.data.toList new.data.toList).toArray⟩)/\Below w w w':=by obtain⟨m,I⟩:=hT;exact Any.strings_ReplaceAll Tryz.laysReplace Tryz.xReplace s old new m w (by omega) I J (by rw[D];omega)
theorem ml(r:Int)(w:World):Calls Tryz.prog 196 #[.int .i32 r] w fun e w'=>e=.returned (.bool (Lib.validRune r))/\w'=w:=by exact(Any.utf8_ValidRune Tryz.laysValid r w)
def OX(B b:Nat)(bs:List Value)(w:World):Prop:=Lib.IsBuilder 129 5 B b bs w
theorem uN(B b:Nat)(bs:List Value)(s:ByteArray)(w:World)(h:OX B b bs w)(D:bs.length+s.size<=140737488355328)(I:B<=w.heap.size):
  Calls Tryz.prog 146 #[b,.string s] w fun e w'=>(∃v,e=.returned v)/\OX B b (bs++Lib.strCells s) w'/\Below B w w':=
 (Any.Builder_WriteString (P:=Tryz.prog) (ρ:=Tryz.laysReplace_ren) { Tryz.laysReplace with } Tryz.xReplace B b bs s w h D I).mono fun _ _ h=>⟨⟨_,h.1⟩,.inr h.2.1,h.2.2⟩
def RC:Go.Shelf.Ren:={ Tryz.laysReplace_ren with f:=fun|167=>147|n=>Tryz.laysReplace_ren.f n }
theorem RT:Go.Proofs.Lays.n167 Tryz.prog RC:=
 {Tryz.laysReplace with
  f167:=Tryz.func147.trans (jH some (by kernel_rfl))
  f240:=Tryz.func197.trans (jH some (by kernel_rfl))
  f276:=Tryz.laysReplace.f276.trans (jH some (by kernel_rfl)) }
theorem T2:Go.Proofs.Builder.Extra Tryz.prog RC:={
 sizeBuilder:=by kernel_rfl
 liesBuilder:=by kernel_rfl
 t5:=Tryz.underlying5
 a5:=Tryz.isAgg5
 z5:=Tryz.sizeOf5
 v5:=Tryz.zeroValue5
 infoByte:=by kernel_rfl
 cellsByte:=by kernel_rfl
 sizeByte:=by kernel_rfl
 neB5:=by decide }
theorem AD(B b:Nat)(bs:List Value)(c:Int)(w:World)(h:OX B b bs w)(D:bs.length+1<=140737488355328)(I:B<=w.heap.size):
  Calls Tryz.prog 147 #[b,.int .u8 c] w fun e w'=>e=.returned .nilIface/\OX B b (bs++[.int .u8 c]) w'/\Below B w w':=
 (Any.Builder_WriteByte RT T2 B b bs c w h D I).mono fun _ _ h=>⟨h.1,.inr h.2.1,h.2.2⟩
theorem C7(B b:Nat)(l:List UInt8)(w:World)(h:OX B b (Lib.byteCells l) w)(D:B<=w.heap.size):
  Calls Tryz.prog 148 #[b] w fun e w'=>e=.returned (.string ⟨l.toArray⟩)/\Below B w w':=
 Any.Builder_String_any Tryz.laysBString Tryz.xBString B b l w h D
def fh(s:ByteArray)(i:Nat)(l:List cY):RZ:=
 if i=0/\Lib.hasPrefix s.data.toList [239,187,191]=true then .go 3 l
 else if aa s i=10 then .go (i+1) (fm l i)
 else if aa s i=32\/aa s i=9\/aa s i=13 then .go (i+1) l
 else match iD s i l with
  |some r=>r
  |none=>
   if bo (aa s i:Int)=true then .go (i+bX (s.data.toList.drop i)) (l++[⟨bZ (s.extract i (i+bX (s.data.toList.drop i)))+1,s.extract i (i+bX (s.data.toList.drop i)),i⟩])
   else if aW (aa s i:Int)=true then .go (i+bX (s.data.toList.drop i)) (l++[⟨4,s.extract i (i+bX (s.data.toList.drop i)),i⟩])
   else if aa s i=34\/aa s i=96 then sL s i l
   else mL s i l
inductive RE where
 |ok (l:List cY)
 |bad (p:Nat)
def d7(s:ByteArray):Nat->Nat->List cY->RE
 |0,_,_=>.bad 0
 | g+1,i,l=>
  if i<s.size then
   match fh s i l with
   | .go j l'=>d7 s g j l'
   | .bad p=>.bad p
  else .ok (fm l (s.size:Int))
inductive wQ where
 |toks (l:List cY)
 |err (p:Int) (e:Int)
def Df:RE->wQ
 | .ok l=>.toks l
 | .bad p=>.err p 3
def fR(s:ByteArray):wQ:=
 if 65536<s.size then .err 65536 12
 else match mf s with
  |some p=>.err p 2
  |none=>Df (d7 s (s.size+1) 0 [])
def mM(i:Nat)(l:List cY):Prop:=l.length<=i/\∀t∈l,t.text.size<=65536
theorem mM.push{i j:Nat}{l:List cY}{t:cY}(h:mM i l)(J:i+1<=j)(I:t.text.size<=65536):mM j (l++[t]):=by
 refine⟨by rw[gJ];have:=h.1;simp;omega,fun u D=>?_⟩;rcases List.mem_append.1 D with D|D
 ·exact h.2 u D
 ·(obtain rfl:u=t:=by simpa using D);exact I
theorem mM.le{i j:Nat}{l:List cY}(h:mM i l)(D:i<=j):mM j l:=⟨jB h.1 D,h.2⟩
theorem mM.line{i j:Nat}{l:List cY}(h:mM i l)(D:i+1<=j)(p:Int):mM j (fm l p):=by
 unfold fm;split
 ·exact h.push D (by show(1:Nat)<=65536;omega)
 ·exact h.le (by omega)
theorem oZ(s:ByteArray)(i j:Nat)(h:s.size<=65536):(s.extract i j).size<=65536:=by rw[jT];omega
theorem Dg(s:ByteArray)(i:Nat):(s.data.toList.drop i).length=s.size-i:=by rw[gR];rfl
theorem ux(l:List UInt8)(c:UInt8)(r:List UInt8)(h:l=c::r)(hc:a6 (c.toNat:Int)=true):1<=bX l:=by subst h;unfold bX;rw[qy,gE (by simpa using hc)];simp
theorem Dh(s:ByteArray)(i:Nat)(D:i<s.size):∃c r,s.data.toList.drop i=c::r/\c.toNat=aa s i:=by obtain⟨c,r,J,I,_⟩:=mT s i D;exact⟨c,r,J,I⟩
theorem sN (s:ByteArray)(i:Nat)(l:List cY)(hs:s.size<=65536)(hi:i<s.size)(h:mM i l)(j:Nat)(l':List cY)(D:fh s i l=.go j l'):i<j/\j<=s.size/\mM j l':=by
 unfold fh at D;split at D
 ·rename_i h0;injection D with e1 I;subst e1 I;have h3:3<=s.size:=by
   show 3<=s.data.toList.length;have N:=h0.2;cases hq:s.data.toList with
   |nil=>rw[hq]at N;simp[Lib.hasPrefix]at N
   | cons a r=>cases r with
     |nil=>rw[hq]at N;simp[Lib.hasPrefix]at N
     | cons b r=>cases r with
       |nil=>rw[hq]at N;simp[Lib.hasPrefix]at N
       |cons c r=>simp
  exact⟨by omega,h3,h.le (by omega)⟩
 ·split at D
  ·injection D with e1 I;subst e1 I;exact⟨by omega,by omega,h.line (d5 _) _⟩
  ·split at D
   ·injection D with e1 I;subst e1 I;exact⟨by omega,by omega,h.le (by omega)⟩
   ·have hd:=Dg s i;cases J:iD s i l with
    | some r=>
     rw[J]at D;have D:r=.go j l':=D;subst D;unfold iD at J;split at J
     ·rename_i hp;have hb:=wP _ hp;injection J with J;injection J with e1 I;subst e1 I;exact⟨by omega,by omega,h.le (by omega)⟩
     ·split at J
      ·split at J
       ·injection J with J;cases J
       ·rename_i hx;have M:=Lib.index_room ((s.data.toList.drop i).drop 2) [42,47] (by omega);rw[gR,hd]at M;injection J with J;injection J with e1 I;subst e1 I;(have h2:i+((Lib.index ((s.data.toList.drop i).drop 2) [42,47]).toNat+4)<=s.size:=by have I:(([42,47]:List UInt8).length:Int)=2:=rfl;rw[I]at M;omega);refine⟨by omega,h2,?_⟩;split
        ·exact h.line (by omega) _
        ·exact h.le (by omega)
      ·cases J
    | none=>
     rw[J]at D;obtain⟨c,r,O,U⟩:=Dh s i hi;have hw:=EH (s.data.toList.drop i);simp only at D;split at D
     ·rename_i hl;have hp:=ux _ c r O (by rw[U];unfold a6;rw[hl];rfl);injection D with e1 I;subst e1 I;exact⟨by omega,by omega,h.push (by omega) (oZ _ _ _ hs)⟩
     ·split at D
      ·rename_i hl;have hp:=ux _ c r O (by rw[U];unfold a6;rw[hl];simp);injection D with e1 I;subst e1 I;exact⟨by omega,by omega,h.push (by omega) (oZ _ _ _ hs)⟩
      ·split at D
       ·unfold sL at D;split at D
        ·rename_i k hk;have hb:=sM _ _ _ _ _ hk;rw[Dg]at hb;injection D with e1 I;subst e1 I;exact⟨by omega,by omega,h.push (by omega) (oZ _ _ _ hs)⟩
        ·cases D
       ·unfold mL at D;split at D
        ·cases D
        ·rename_i ga;have hb:dX s i<=s.size-i:=by
          unfold dX;split
          ·rename_i h;exact h.1
          ·split
           ·rename_i h;exact h.1
           ·split
            ·rename_i h;exact h.1
            ·omega
         injection D with e1 I;subst e1 I;exact⟨by omega,by omega,h.push (by omega) (oZ _ _ _ hs)⟩
theorem EK(X:Nat)(s:ByteArray)(i:Nat)(l:List cY)(w:World)(h:iQ w X s i l)(hT:dk w)(I:i<s.size)(hv:mM i l):
  Calls Tryz.prog 73 #[X] w (iL X s w (fh s i l) (.tuple #[])):=by
 (have O:l.length+1<=65537:=by have:=hv.1;have:=h.most;omega);have D:=hv.2;unfold fh;by_cases h0:i=0/\Lib.hasPrefix s.data.toList [239,187,191]=true
 ·rw[gE h0];exact G2 X s i l w h I h0.1 h0.2
 rw[gA h0];have M:i=0->Lib.hasPrefix s.data.toList [239,187,191]=false:=fun hz=>by
  cases hp:Lib.hasPrefix s.data.toList [239,187,191]with
  |false=>rfl
  |true=>exact absurd ⟨hz,hp⟩ h0
 by_cases h1:aa s i=10
 ·rw[gE h1];exact O2 X s i l w h I M h1 O hT D
 rw[gA h1];by_cases h2:aa s i=32\/aa s i=9\/aa s i=13
 ·rw[gE h2];exact EI X s i l w h I M _ h2 rfl
 rw[gA h2];(have hn:aa s i≠10/\aa s i≠32/\aa s i≠9/\aa s i≠13:=by omega);cases U:iD s i l with
 |some r=>exact G3 X s i l w h I M hn O hT D r U
 |none=>
  simp only;by_cases J:bo (aa s i:Int)=true
  ·rw[gE J];exact Dd X s i l w h I M hn O hT D U J
  rw[gA J];have J:=Bool.eq_false_iff.2 J;by_cases N:aW (aa s i:Int)=true
  ·rw[gE N];exact De X s i l w h I M hn O hT D U J N
  rw[gA N];have N:=Bool.eq_false_iff.2 N;by_cases h5:aa s i=34\/aa s i=96
  ·rw[gE h5];exact EJ X s i l w h I M hn O hT D U J N _ h5 rfl
  rw[gA h5];exact G4 X s i l w h I M hn O hT D U J N (by omega)
end
section
open Go.RowKit Go.Lib Go.Proofs
attribute [local go_sem ↓] Go.wp_at_zero Go.wp_at_succ
theorem To:Tryz.prog.underlying 27=some (.slice (Tryz.prog.elem 27)):=by kernel_rfl
theorem RY:Tryz.prog.elem 27=5:=by kernel_rfl
theorem Tp(w:World):(sizeOf (Tryz.prog.elem 27)).run Tryz.prog w=.ok 1 w:=by rw[RY];exact Tryz.sizeOf5 w
theorem AE(g o n c k:Nat)(I:k<n)(D:n<=c)(W:World):(Instr.slice 27 (.slice (some ⟨g,o,none⟩) n c) (some (.int .i64 (k:Int))) none none).run Tryz.prog W=.ok (.slice (some ⟨g,o+k,none⟩) (n-k) (c-k)) W:=by rw[run_slice_l (P:=Tryz.prog) W 27 _ n c To .i64 (k:Int) (by omega) (by omega),Tp];simp only[Result.andThen,sliced,Int.toNat_natCast];rw[gA (by omega)];simp[rU]
def tS(r:Option Nat):Int:=match r with|some i=>(i:Int)|none =>-1
theorem GY(g o c:Nat)(s:ByteArray)(w:World)(hT:mH w)(hb:Lib.Bytes w g o s)(hg:g<w.heap.size)(hc:s.size<=c)(gs:s.size<=1000000000):
  Calls Tryz.prog 71 #[.slice (some ⟨g,o,none⟩) s.size c] w fun e w'=>e=.returned (.int .i64 (tS (mf s)))/\Below w w w':=by
 have J:=hid (fun w'(hB:Below w w w')j(hj:j<s.size)=>AC g o c j s w' (hT.below hB) (fun i hi=>(kS (a:=⟨g,o+i,none⟩) (hB.block g hg)).trans (hb i hi)) hj);have gp:=run_convert_whole (P:=Tryz.prog) w 27 5 9 Tryz.underlying27 Tryz.underlying5 Tryz.underlying9 g o s hb c;have hcut:=fun k hk W=>AE g o s.size c k hk hc W;obtain⟨R,hR⟩:∃R,R=mf s:=⟨_,rfl⟩;rw[<-hR];have gq:Hid (iZ s s.size 0=R):=hid hR.symm;clear hb hT hR;(go_enter Tryz.func71,Tryz.ntmps71);(go_wp2_with fail);clear gp;go_loopg [3,4,5,6,10,11] s.size (fun gg _ _ _ _ _ _ wr=>∃j f:Nat,j<=s.size/\s.size-j<=gg/\wr.heap[w.heap.size]? = some (.stringIter s j)/\Below w w wr/\iZ s f j=R/\s.size-j<=f)
 case atStart=>exact⟨0,s.size,gP _,by omega,qz w _ 0,(gG w.heap.size w).alloc (d5 _) _,gq.out,by omega⟩
 case round=>
  obtain⟨j,f,hj,gw,hit,U,gi,hf⟩:=hrel;have ge:=hid hit;have gd:=hid gi;clear hit gi;by_cases I:j<s.size
  ·obtain⟨f1,rfl⟩:∃f1,f=f1+1:=⟨f-1,by omega⟩;have HQ:=hid (fun(_:Nat)=>show(if(Utf8.decode s j).1=0\/((Utf8.decode s j).1=65533/\(Utf8.decode s j).2=1)\/((Utf8.decode s j).1=65279/\0<j)then some j else iZ s f1 (j+(Utf8.decode s j).2))=R by have:=gd.out;rw[iZ,gE I]at this;exact this);have O:=fun ty=>qI (P:=Tryz.prog) wr w.heap.size s j ty ge.out I;have yk:1<=(Utf8.decode s j).2/\j+(Utf8.decode s j).2<=s.size:=by
    by_cases gj:aa s j<128
    ·rw[l6 s j gj];exact⟨d5 _,I⟩
    ·have:=ln s j I (by omega);exact⟨this.2.1,this.2.2.1⟩
   have J:=hid (fun w'(hB:Below w w w')=>J.out w' hB j I);generalize Utf8.decode s j=q at *;obtain⟨r,k⟩:=q;simp only at yk O HQ J;obtain⟨gu,gt⟩:=yk;have j1:=qL wr w.heap.size s j (j+k) ge.out;have M:Below w w (wr.iterAt w.heap.size s (j+k)):=cW U (d5 _);have j0:w.heap.size<(wr.iterAt w.heap.size s (j+k)).heap.size:=by
    rcases jZ w.heap.size (wr.iterAt w.heap.size s (j+k)).heap.size with h|h
    ·exact h
    ·rw[kI h]at j1;cases j1
   generalize wr.iterAt w.heap.size s (j+k)=W1 at O j1 M j0;have gx:=hcut j I;have J1:=hid j1;have hq:=trivial;clear j1 U gd;by_cases gh:r=0
   ·have HC:=hid (show(r=0\/(r=65533/\k=1)\/(r=65279/\0<j))by omega);subst gh;have N:Hid (R=some j):=hid (by rw[<-HQ.out f1,gE HC.out]);clear hq;(go_wp2_with fail);refine(J.out _ M).mono ?_;rintro e w3⟨rfl,D⟩;(go_wp2_with fail);go_ret;exact⟨by rw[N.out];rfl,a8 M D⟩
   ·by_cases gb:r=65533
    ·by_cases gn:k=1
     ·have HC:=hid (show(r=0\/(r=65533/\k=1)\/(r=65279/\0<j))by omega);subst gb gn;have N:Hid (R=some j):=hid (by rw[<-HQ.out f1,gE HC.out]);clear hq;(go_wp2_with fail);refine(J.out _ M).mono ?_;rintro e w3⟨rfl,D⟩;(go_wp2_with fail);go_ret;exact⟨by rw[N.out];rfl,a8 M D⟩
     ·have HC:=hid (show ¬ (r=0\/(r=65533/\k=1)\/(r=65279/\0<j))by omega);(have ek:((k:Int)==1)=false:=by rw[gF];omega);subst gb;have N:Hid (iZ s f1 (j+k)=R):=hid (by rw[<-HQ.out f1,gA HC.out]);clear hq;(go_wp2_with fail);refine(J.out _ M).mono ?_;rintro e w3⟨rfl,D⟩;have J3:=hid ((D.block w.heap.size j0).trans J1.out);(go_wp2_with fail);go_roundg (s.size-(j+k))
      case measure=>omega
      case rel=>exact⟨j+k,f1,by omega,d5 _,J3.out,a8 M D,N.out,by omega⟩
    ·by_cases ga:r=65279
     ·by_cases gv:0<j
      ·have HC:=hid (show(r=0\/(r=65533/\k=1)\/(r=65279/\0<j))by omega);(have ej:decide ((0:Int)<(j:Int))=true:=by rw[gS];omega);subst ga;have N:Hid (R=some j):=hid (by rw[<-HQ.out f1,gE HC.out]);clear hq;(go_wp2_with fail);refine(J.out _ M).mono ?_;rintro e w3⟨rfl,D⟩;(go_wp2_with fail);go_ret;exact⟨by rw[N.out];rfl,a8 M D⟩
      ·have HC:=hid (show ¬ (r=0\/(r=65533/\k=1)\/(r=65279/\0<j))by omega);(have ej:decide ((0:Int)<(j:Int))=false:=by rw[gK];omega);subst ga;have N:Hid (iZ s f1 (j+k)=R):=hid (by rw[<-HQ.out f1,gA HC.out]);clear hq;(go_wp2_with fail);refine(J.out _ M).mono ?_;rintro e w3⟨rfl,D⟩;have J3:=hid ((D.block w.heap.size j0).trans J1.out);(go_wp2_with fail);go_roundg (s.size-(j+k))
       case measure=>omega
       case rel=>exact⟨j+k,f1,by omega,d5 _,J3.out,a8 M D,N.out,by omega⟩
     ·have HC:=hid (show ¬ (r=0\/(r=65533/\k=1)\/(r=65279/\0<j))by omega);(have e0:((r:Int)==0)=false:=by rw[gF];omega);(have gl:((r:Int)==65533)=false:=by rw[gF];omega);(have gm:((r:Int)==65279)=false:=by rw[gF];omega);clear gh gb ga;have N:Hid (iZ s f1 (j+k)=R):=hid (by rw[<-HQ.out f1,gA HC.out]);clear hq;(go_wp2_with fail);refine(J.out _ M).mono ?_;rintro e w3⟨rfl,D⟩;have J3:=hid ((D.block w.heap.size j0).trans J1.out);(go_wp2_with fail);go_roundg (s.size-(j+k))
      case measure=>omega
      case rel=>exact⟨j+k,f1,by omega,d5 _,J3.out,a8 M D,N.out,by omega⟩
  ·have gr:=fun ty=>qA (P:=Tryz.prog) wr w.heap.size s j ty ge.out I;have N:Hid (R=none):=hid (by
    rw[<-gd.out];cases f with
    |zero=>rfl
    |succ f=>rw[iZ,gA I])
   (go_wp2_with fail);go_ret;exact⟨by rw[N.out];rfl,U⟩
theorem GZ(w:World):
  Calls Tryz.prog 71 #[.slice none 0 0] w fun e w'=>e=.returned (.int .i64 (-1))/\Below w w w':=by have I:=run_convert_nil_bytes (P:=Tryz.prog) w 27 9 5 0 Tryz.underlying27 Tryz.underlying5 Tryz.underlying9;have hit:=qz w ⟨#[]⟩ 0;have D:=fun ty=>qA (P:=Tryz.prog) (w.iter ⟨#[]⟩ 0) w.heap.size ⟨#[]⟩ 0 ty hit (by decide);have J:=hid (show Below w w (w.iter ⟨#[]⟩ 0)from(gG w.heap.size w).alloc (d5 _) _);clear hit;(go_enter Tryz.func71,Tryz.ntmps71);(go_wp2_with fail);refine wp_loop_rounds 1 ?_;rw[qE];(go_wp2_with fail);go_ret;exact⟨rfl,J.out⟩
theorem C8{w w':World}{g o:Nat}{s:ByteArray}(h:Lib.Bytes w g o s)(D:g<w.heap.size)(hb:Below w w w'):Lib.Bytes w' g o s:=
 fun i hi=>(kS (a:=⟨g,o+i,none⟩) (hb.block g D)).trans (h i hi)
def fo(w:World)(A:Option Addr)(c:Nat)(s:ByteArray):Prop:=
 (A=none/\c=0/\s=⟨#[]⟩)\/∃g o,A=some ⟨g,o,none⟩/\s.size<=c/\g<w.heap.size/\Lib.Bytes w g o s
theorem fo.below{w w':World}{A:Option Addr}{c:Nat}{s:ByteArray}(h:fo w A c s)(hb:Below w w w'):fo w' A c s:=by
 rcases h with h|⟨g,o,M,J,D,I⟩
 ·exact .inl h
 ·exact .inr ⟨g,o,M,J,kH D hb.size,C8 I D hb⟩
theorem fo.wrong{w:World}{A:Option Addr}{c:Nat}{s:ByteArray}(h:fo w A c s)(hT:mH w)(D:s.size<=1000000000):
  Calls Tryz.prog 71 #[.slice A s.size c] w fun e w'=>e=.returned (.int .i64 (tS (mf s)))/\Below w w w':=by
 rcases h with⟨rfl,rfl,rfl⟩|⟨g,o,rfl,M,J,I⟩
 ·exact GZ w
 ·exact GY g o c s w hT I J M D
theorem fo.conv{w:World}{A:Option Addr}{c:Nat}{s:ByteArray}(h:fo w A c s):
  (convert 27 9 (.slice A s.size c)).run Tryz.prog w=.ok (.string s) w:=by
 rcases h with⟨rfl,rfl,rfl⟩|⟨g,o,rfl,J,I,D⟩
 ·exact run_convert_nil_bytes (P:=Tryz.prog) w 27 9 5 0 Tryz.underlying27 Tryz.underlying5 Tryz.underlying9
 ·exact run_convert_whole (P:=Tryz.prog) w 27 5 9 Tryz.underlying27 Tryz.underlying5 Tryz.underlying9 g o s D c
theorem O3(v:Value)(w:World):(Instr.typeAssert (.iface 83 v) 20 83 true).run Tryz.prog w=.ok (.tuple #[v,.bool true]) w:=by kernel_rfl
attribute [local go_sem] O3
theorem EL(B P Q R:Nat)(p:Nat)(vP vQ vR:Value)(w:World)(hP:au w P 63 #[vP])(hQ:au w Q 3 #[vQ])(hR:au w R 29 #[vR])(gg:B<=P)(ge:B<=Q)(gd:B<=R)(O:P≠Q)(N:P≠R)(M:Q≠R):
  CallsD Tryz.prog 72 #[P,Q,R] (.panicking [{ v:=.iface 83 (.agg #[.int .i64 (p:Int)]),recovered:=false }]) w
   fun e u' w'=>e=.returned (.tuple #[])/\u'=.panicking [{ v:=.iface 83 (.agg #[.int .i64 (p:Int)]),recovered:=true }] /\
    au w' P 63 #[.pointer none]/\au w' Q 3 #[.int .i64 (p:Int)]/\au w' R 29 #[.int .i64 3]/\Below B w w':=by refine vy Tryz.func72 rfl fun c₀ cs hu=>?_;apply vD;apply qO;simp[wpOpsS,go_sem,recoverD,hu,Tryz.ntmps72,Exit.thenS];apply vD;apply qO;simp[wpOpsS,go_sem,Exit.thenS];refine wpS_cond (t:=true) (by simp[Act.eval,Array.replicate]) ?_;simp only[kJ];refine wpS_of_wp ?_;change Code.wp _ _ _ { tmps:=#[.pointer (some ⟨P,0,none⟩),.pointer (some ⟨Q,0,none⟩),.pointer (some ⟨R,0,none⟩),.iface 83 (.agg #[.int .i64 (p:Int)]),undef,undef,.iface 83 (.agg #[.int .i64 (p:Int)]),.iface 83 (.agg #[.int .i64 (p:Int)]),.bool true,undef,undef,undef,undef,undef,undef,undef,undef,undef,undef],defers:=[] } _;have J:=hP.alloc (.cells #[.int .i64 (p:Int)] 83);have I:=hQ.alloc (.cells #[.int .i64 (p:Int)] 83);have D:=hR.alloc (.cells #[.int .i64 (p:Int)] 83);have U:=au.new w 83 #[.int .i64 (p:Int)];have gh:Below B w (w.alloc (.cells #[.int .i64 (p:Int)] 83)):=(gG _ _).alloc (by have:=hP.lt;omega) _;have gk:=hP.lt;have gj:=hQ.lt;have gi:=hR.lt;(go_upto_region 5 with fail);generalize w.alloc (.cells #[.int .i64 (p:Int)] 83)=w1 at *;(have gn:P≠w.heap.size:=by omega);(have gm:Q≠w.heap.size:=by omega);(have gl:R≠w.heap.size:=by omega);generalize w.heap.size=T at *;have x0:=bg J;have x1:=bg I;have x2:=bg D;have x3:=bg U;have f0:=J.frozen 0;have f1:=I.frozen 0;have f2:=D.frozen 0;go_region;all_goals have gb:au ((((w1.setCell ⟨P,0,none⟩ (.pointer none)).setCell ⟨Q,0,none⟩ (.int .i64 (p:Int))).setCell ⟨R,0,none⟩ (.int .i64 3))).drew P 63 #[.pointer none]:=(((show au (w1.setCell ⟨P,0,none⟩ (.pointer none)) P 63 #[.pointer none]by simpa using J.set_ 0 (.pointer none)).far (p:=⟨Q,0,none⟩) O (.int .i64 (p:Int))).far (p:=⟨R,0,none⟩) N (.int .i64 3)).drew;have ga:au ((((w1.setCell ⟨P,0,none⟩ (.pointer none)).setCell ⟨Q,0,none⟩ (.int .i64 (p:Int))).setCell ⟨R,0,none⟩ (.int .i64 3))).drew Q 3 #[.int .i64 (p:Int)]:=((show au ((w1.setCell ⟨P,0,none⟩ (.pointer none)).setCell ⟨Q,0,none⟩ (.int .i64 (p:Int))) Q 3 #[.int .i64 (p:Int)]by simpa using(I.far (p:=⟨P,0,none⟩) O.symm (.pointer none)).set_ 0 (.int .i64 (p:Int))).far (p:=⟨R,0,none⟩) M (.int .i64 3)).drew;have h:au ((((w1.setCell ⟨P,0,none⟩ (.pointer none)).setCell ⟨Q,0,none⟩ (.int .i64 (p:Int))).setCell ⟨R,0,none⟩ (.int .i64 3))).drew R 29 #[.int .i64 3]:=(show au (((w1.setCell ⟨P,0,none⟩ (.pointer none)).setCell ⟨Q,0,none⟩ (.int .i64 (p:Int))).setCell ⟨R,0,none⟩ (.int .i64 3)) R 29 #[.int .i64 3]by simpa using((D.far (p:=⟨P,0,none⟩) N.symm (.pointer none)).far (p:=⟨Q,0,none⟩) M.symm (.int .i64 (p:Int))).set_ 0 (.int .i64 3)).drew;refine⟨rfl,_,rfl,.tuple #[],?_,rfl,rfl,gb,ga,h,(((gh.setCell (p:=⟨P,0,none⟩) gg (.pointer none)).setCell (p:=⟨Q,0,none⟩) ge (.int .i64 (p:Int))).setCell (p:=⟨R,0,none⟩) gd (.int .i64 3)).drew⟩;simp[results,Tryz.results72,go_sem]
theorem G5(p q r:Addr)(w:World):
  CallsD Tryz.prog 72 #[.pointer (some p),.pointer (some q),.pointer (some r)] .returning w fun e u' w'=>e=.returned (.tuple #[])/\u'=.returning/\w'=w:=by
 refine vy Tryz.func72 rfl fun c₀ cs D=>?_;apply vD;apply qO;simp[wpOpsS,go_sem,recoverD,D,Tryz.ntmps72,Exit.thenS];apply vD;apply qO;simp[wpOpsS,go_sem,Exit.thenS];refine wpS_cond (t:=false) (by simp[Act.eval,Array.replicate]) ?_;simp only[gT,jY];refine wpS_of_wp (wp_skip ?_);cases c₀
 simp_all[bodyPostS,results,Tryz.results72]
def RF(Q:Exit->Act->World->Prop):Exit->Act->World->Prop:=fun x a w=>match x with
 | .normal=>Q .normal a w
 |_=>False
theorem LF{P:Program}{c:Code}{Q:Exit->Act->World->Prop}{a:Act}{w:World}(h:c.wp P (RF Q) a w):c.wp P Q a w:=
 Code.wp_mono (fun e a w h=>by
  cases e with
  |normal=>exact h
  |_=>exact h.elim) h
def pL(s0:ByteArray)(w:World)(r:wQ)(e:Ending)(w':World):Prop:=
 match r with
 | .toks L=>∃X i,e=.returned (.tuple #[.pointer (some ⟨X,0,none⟩),.int .i64 0,.int .i64 0])/\iQ w' X s0 i L/\w.heap.size<=X/\Below w w w'
 | .err p n=>e=.returned (.tuple #[.pointer none,.int .i64 p,.int .i64 n])/\Below w w w'
theorem LG(A:Option Addr)(c:Nat)(s:ByteArray)(w:World)(hv:fo w A c s)(hT:mH w)(hp:s.size<=1000000000):
  Calls Tryz.prog 43 #[.slice A s.size c] w (pL s w (fR s)):=by
 have jc:∀(fn:Fn)(first cap:Array Value)(w:World),(Instr.makeFunc fn first cap).run Tryz.prog w=.ok (.func fn first cap) w:=fun _ _ _ _=>rfl;have gt:Below w w (((w.alloc (.cells #[.pointer none] 63)).alloc (.cells #[.int .i64 0] 3)).alloc (.cells #[.int .i64 0] 29)):=bel;have gs:au (((w.alloc (.cells #[.pointer none] 63)).alloc (.cells #[.int .i64 0] 3)).alloc (.cells #[.int .i64 0] 29)) w.heap.size 63 #[.pointer none]:=((au.new w _ _).alloc _).alloc _;have gr:au (((w.alloc (.cells #[.pointer none] 63)).alloc (.cells #[.int .i64 0] 3)).alloc (.cells #[.int .i64 0] 29)) (w.heap.size+1) 3 #[.int .i64 0]:=(au.new_at (by simp) _ _).alloc _;have gp:au (((w.alloc (.cells #[.pointer none] 63)).alloc (.cells #[.int .i64 0] 3)).alloc (.cells #[.int .i64 0] 29)) (w.heap.size+2) 29 #[.int .i64 0]:=au.new_at (by simp) _ _;have HW:=hid (fun w'(ge:Below w w w')=>(hv.below ge).wrong (hT.below ge) hp);have hq:=hid (fun w'(ge:Below w w w')=>(hv.below ge).conv);have HT:=hid hT;generalize hO:fR s=O at *;have HO:=hid hO;clear hT hv hO;by_cases I:65536<s.size
 ·(have ho:decide ((65536:Int)<(s.size:Int))=true:=by rw[gS];omega);have hk:Hid (O=.err 65536 12):=hid (by rw[<-HO.out,fR,gE I]);have x0:=bg gs;have y0:=bg gr;have z0:=bg gp;have xf:=gs.frozen 0;have yf:=gr.frozen 0;have zf:=gp.frozen 0;clear I;(go_enter_defers Tryz.func43,Tryz.ntmps43);(go_wp2_with fail);rw[hk.out];clear x0 y0 z0 xf yf zf;simp[bodyPostD,Leaves,results,Tryz.results43,go_sem,pL];exact bel
 (have hn:s.size<=65536:=by omega);(have ho:decide ((65536:Int)<(s.size:Int))=false:=by rw[gK];omega);cases gm:mf s with
 |some p=>have hk:Hid (O=.err (p:Int) 2):=hid (by rw[<-HO.out,fR,gA I,gm]);rw[gm]at HW;(have jh:decide ((0:Int)<=(p:Int))=true:=by rw[gS];omega);clear HO gm I;(go_enter_defers Tryz.func43,Tryz.ntmps43);(go_wp2_with fail);refine(HW.out _ gt).mono ?_;rintro e w1⟨rfl,J⟩;unfold tS;(have gb:(((w.alloc (.cells #[.pointer none] 63)).alloc (.cells #[.int .i64 0] 3)).alloc (.cells #[.int .i64 0] 29)).heap.size=w.heap.size+3:=by simp);have gi:=gs.below J (by rw[gb];omega);have gq:=gr.below J (by rw[gb];omega);have gn:=gp.below J (by rw[gb];omega);have g1:=a8 gt J;have x0:=bg gi;have y0:=bg gq;have z0:=bg gn;have xf:=gi.frozen 0;have yf:=gq.frozen 0;have zf:=gn.frozen 0;clear gs gr gp J gt gb;simp only;(go_wp2_with fail);have M:au (((w1.setCell ⟨w,0,none⟩ (.pointer none)).setCell ⟨w.heap.size+1,0,none⟩ (.int .i64 (p:Int))).setCell ⟨w.heap.size+1+1,0,none⟩ (.int .i64 2)) w.heap.size 63 #[.pointer none]:=((show au (w1.setCell ⟨w,0,none⟩ (.pointer none)) w.heap.size 63 #[.pointer none]by simpa using gi.set_ 0 (.pointer none)).far (p:=⟨w.heap.size+1,0,none⟩) (by show w.heap.size≠w.heap.size+1;omega) (.int .i64 (p:Int))).far (p:=⟨w.heap.size+1+1,0,none⟩) (by show w.heap.size≠w.heap.size+1+1;omega) (.int .i64 2);have U:au (((w1.setCell ⟨w,0,none⟩ (.pointer none)).setCell ⟨w.heap.size+1,0,none⟩ (.int .i64 (p:Int))).setCell ⟨w.heap.size+1+1,0,none⟩ (.int .i64 2)) (w.heap.size+1) 3 #[.int .i64 (p:Int)]:=(show au ((w1.setCell ⟨w,0,none⟩ (.pointer none)).setCell ⟨w.heap.size+1,0,none⟩ (.int .i64 (p:Int))) (w.heap.size+1) 3 #[.int .i64 (p:Int)]by simpa using(gq.far (p:=⟨w,0,none⟩) (by show w.heap.size+1≠w.heap.size;omega) (.pointer none)).set_ 0 (.int .i64 (p:Int))).far (p:=⟨w.heap.size+1+1,0,none⟩) (by show w.heap.size+1≠w.heap.size+1+1;omega) (.int .i64 2);(have N:au (((w1.setCell ⟨w,0,none⟩ (.pointer none)).setCell ⟨w.heap.size+1,0,none⟩ (.int .i64 (p:Int))).setCell ⟨w.heap.size+1+1,0,none⟩ (.int .i64 2)) (w.heap.size+2) 29 #[.int .i64 2]:=by simpa using((gn.far (p:=⟨w,0,none⟩) (by show w.heap.size+2≠w.heap.size;omega) (.pointer none)).far (p:=⟨w.heap.size+1,0,none⟩) (by show w.heap.size+2≠w.heap.size+1;omega) (.int .i64 (p:Int))).set_ 0 (.int .i64 2));have ga:Below w w (((w1.setCell ⟨w,0,none⟩ (.pointer none)).setCell ⟨w.heap.size+1,0,none⟩ (.int .i64 (p:Int))).setCell ⟨w.heap.size+1+1,0,none⟩ (.int .i64 2)):=((g1.setCell (p:=⟨w,0,none⟩) (d5 _) _).setCell (p:=⟨w.heap.size+1,0,none⟩) (jE _) _).setCell (p:=⟨w.heap.size+1+1,0,none⟩) (show w.heap.size<=w.heap.size+1+1 by omega) _;generalize((w1.setCell ⟨w,0,none⟩ (.pointer none)).setCell ⟨w.heap.size+1,0,none⟩ (.int .i64 (p:Int))).setCell ⟨w.heap.size+1+1,0,none⟩ (.int .i64 2)=w2 at *;clear x0 y0 z0 xf yf zf;have z0:=bg M;have z1:=bg U;have z2:w2.cell? ⟨w.heap.size+1+1,0,none⟩=some (.int .i64 2):=bg N;rw[hk.out];simp[bodyPostD,Leaves,results,Tryz.results43,go_sem,z0,z1,z2,pL];exact ga
 |none=>
 have HS:Hid (Df (d7 s (s.size+1) 0 [])=O):=hid (by rw[<-HO.out,fR,gA I,gm]);rw[gm]at HW;clear HO gm I;(go_enter_defers Tryz.func43,Tryz.ntmps43);(go_wp2_with fail);refine(HW.out _ gt).mono ?_;rintro e w1⟨rfl,J⟩;unfold tS;(have gb:(((w.alloc (.cells #[.pointer none] 63)).alloc (.cells #[.int .i64 0] 3)).alloc (.cells #[.int .i64 0] 29)).heap.size=w.heap.size+3:=by simp);have gi:=gs.below J (by rw[gb];omega);have gq:=gr.below J (by rw[gb];omega);have gn:=gp.below J (by rw[gb];omega);have hr:=J.size;rw[gb]at hr;have g1:=a8 gt J;clear gs gr gp J gt gb;have hu:=hq.out _ g1;have x0:=bg (gi.alloc (.cells #[.string s,.int .i64 0,.slice none 0 0,.slice none 0 0] 67));have xf:=(gi.alloc (.cells #[.string s,.int .i64 0,.slice none 0 0,.slice none 0 0] 67)).frozen 0;(go_wp2_with fail);(have M:au ((w1.alloc (.cells #[.string s,.int .i64 0,.slice none 0 0,.slice none 0 0] 67)).setCell ⟨w,0,none⟩ (.pointer (some ⟨w1,0,none⟩))) w.heap.size 63 #[w1]:=by simpa using(gi.alloc _).set_ 0 _);have U:au ((w1.alloc (.cells #[.string s,.int .i64 0,.slice none 0 0,.slice none 0 0] 67)).setCell ⟨w,0,none⟩ (.pointer (some ⟨w1,0,none⟩))) (w.heap.size+1) 3 #[.int .i64 0]:=(gq.alloc _).far (p:=⟨w,0,none⟩) (by show w.heap.size+1≠w.heap.size;omega) _;have N:au ((w1.alloc (.cells #[.string s,.int .i64 0,.slice none 0 0,.slice none 0 0] 67)).setCell ⟨w,0,none⟩ (.pointer (some ⟨w1,0,none⟩))) (w.heap.size+2) 29 #[.int .i64 0]:=(gn.alloc _).far (p:=⟨w,0,none⟩) (by show w.heap.size+2≠w.heap.size;omega) _;have ga:Below w w ((w1.alloc (.cells #[.string s,.int .i64 0,.slice none 0 0,.slice none 0 0] 67)).setCell ⟨w,0,none⟩ (.pointer (some ⟨w1,0,none⟩))):=(g1.alloc (by omega) _).setCell (d5 _) _;have g4:iQ ((w1.alloc (.cells #[.string s,.int .i64 0,.slice none 0 0,.slice none 0 0] 67)).setCell ⟨w,0,none⟩ (.pointer (some ⟨w1,0,none⟩))) w1.heap.size s 0 []:=
  ⟨⟨.slice none 0 0,.slice none 0 0,[],(au.new w1 _ _).far (p:=⟨w,0,none⟩) (by show w1.heap.size≠w.heap.size;omega) _,lZ.nil _ _,lZ.nil _ _,(fun g h=>by cases h),d5 _⟩,gP _,hn,by simp⟩
 generalize(w1.alloc (.cells #[.string s,.int .i64 0,.slice none 0 0,.slice none 0 0] 67)).setCell ⟨w,0,none⟩ (.pointer (some ⟨w1,0,none⟩))=w2 at *;generalize w1.heap.size=X at *;clear gi gq gn g1 x0 xf hu hq HW;go_loopg [28] s.size (fun gg _ wr=>∃(i f:Nat)(l:List cY),iQ wr X s i l/\au wr w.heap.size 63 #[X]/\au wr (w.heap.size+1) 3 #[.int .i64 0]/\au wr (w.heap.size+2) 29 #[.int .i64 0]/\Below w w wr /\
  Df (d7 s f i l)=O/\mM i l/\s.size-i+1<=f/\s.size-i<=gg)
 case atStart=>exact⟨0,s.size+1,[],g4,M,U,N,ga,HS.out,⟨d5 _,fun t h=>by cases h⟩,by omega,by omega⟩
 case round=>
  clear g4 M U N ga;obtain⟨i,f,l,g3,M,U,N,ga,gl,gd,hf,jg⟩:=hrel;have jd:=g3.le;obtain⟨lv,nv,ns,hg⟩:=g3.out;obtain⟨x0,x1,x2,x3,-,-,-,-⟩:=ag hg.blk;have y0:=bg M;obtain⟨f1,rfl⟩:∃f1,f=f1+1:=⟨f-1,by omega⟩;unfold d7 at gl;by_cases hi:i<s.size
  ·rw[gE hi]at gl;(have ht:(i:Int)<(s.size:Int):=by omega);have g6:=hid gl;have g5:=hid (fun w'(ge:Below wr wr w')(g8:Below w w w')=>EK X s i l w' (g3.below ge) (HT.out.below g8).tab hi gd);have g2:=hid (sN s i l hn hi gd);clear gl hg gd;cases yk:fh s i l with
   |go j l'=>
    obtain⟨jf,je,gu⟩:=g2.out j l' yk;have HF:Hid (Df (d7 s f1 j l')=O):=hid (by rw[<-g6.out,yk]);rw[yk]at g5;have ja:=hid gu;clear yk g6 g2 gu;(go_wp2_with fail);go_quiet (fail);have gv:=bC (gG wr.heap.size wr) nq;have gj:=bC ga nq;have gh:=M.drewN nq;have gz:=U.drewN nq;have gx:=N.drewN nq;have y3:=bg gh;generalize wr.drewN nq=w3 at *;clear x0 x1 x2 x3 y0 M U N ga;(go_wp2_with fail);refine(g5.out _ gv gj).mono ?_;rintro e w4⟨rfl,g7,D⟩;(go_wp2_with fail);go_roundg (s.size-j)
    case measure=>omega
    case rel=>exact⟨j,f1,l',g7,gh.below D (by omega),gz.below D (by omega),gx.below D (by omega),gj.trans (D.mono (by omega)),HF.out,ja.out,by omega,d5 _⟩
   |bad p=>have HF:Hid (O=.err (p:Int) 3):=hid (by rw[<-g6.out,yk];rfl);rw[yk]at g5;clear yk g6 g2;(go_wp2_with fail);go_quiet (fail);have gv:=bC (gG wr.heap.size wr) nq;have gj:=bC ga nq;have gh:=M.drewN nq;have gz:=U.drewN nq;have gx:=N.drewN nq;have y3:=bg gh;generalize wr.drewN nq=w3 at *;clear x0 x1 x2 x3 y0 M U N ga;(go_wp2_with fail);refine(g5.out _ gv gj).mono ?_;rintro e w4⟨rfl,D⟩;have g0:=gh.below D (by omega);have gy:=gz.below D (by omega);have gw:=gx.below D (by omega);have hj:=gj.trans (D.mono (by omega));unfold fy;refine kT (f:=72) (args:=#[w,.pointer (some ⟨w.heap.size+1,0,none⟩),.pointer (some ⟨w.heap.size+1+1,0,none⟩)]) (by simp) (by simp[go_sem]) ?_;refine(EL w.heap.size w.heap.size (w.heap.size+1) (w.heap.size+2) p _ _ _ w4 g0 gy gw (d5 _) (by omega) (by omega) (by omega) (by omega) (by omega)).mono ?_;rintro e u' w5⟨rfl,rfl,he,ha,g9,hh⟩;have z0:=bg he;have z1:=bg ha;have z2:w5.cell? ⟨w.heap.size+1+1,0,none⟩=some (.int .i64 3):=bg g9;rw[HF.out];simp[Leaves,settle,results,Tryz.results43,go_sem,z0,z1,z2,pL];exact hj.trans hh
  ·rw[gA hi]at gl;have HF:=hid (show O=.toks (fm l (s.size:Int))from gl.symm);(have hl:l.length+1<=65537:=by have:=gd.1;omega);(have ht:¬ (i:Int)<(s.size:Int):=by omega);have hm:=gd.2;have h8:=hid (fun w'(ge:Below wr wr w')(g8:Below w w w')=>wL X s i l (s.size:Int) hl w' (g3.below ge) (HT.out.below g8).tab hm);clear gl hg hm gd;(go_wp2_with fail);go_quiet (fail);have gv:=bC (gG wr.heap.size wr) nq;have gj:=bC ga nq;have gh:=M.drewN nq;have gz:=U.drewN nq;have gx:=N.drewN nq;have y3:=bg gh;have jb:(wr.drewN nq).cell? ⟨X,0,none⟩=some (.string s):=x0;generalize wr.drewN nq=w3 at *;clear x0 x1 x2 x3 y0 M U N ga;(go_wp2_with fail);refine LF ?_;go_region_law (first
    |(go_simp;go_at_call 74;refine(h8.out _ gv.drew gj.drew).mono ?_;rintro e w4⟨rfl,g7,D⟩;have g0:=gh.drew.below D (by omega);have y4:=bg g0))
   all_goals unfold RF;have gy:=gz.drew.below D (by omega);have gw:=gx.drew.below D (by omega);have hj:=gj.drew.trans (D.mono (by omega));have yf:=g0.frozen 0;have u4:=bg gy;have uf:=gy.frozen 0;have v4:=bg gw;have vf:=gw.frozen 0;(go_wp2_with fail);(have he:au (w4.setCell ⟨w,0,none⟩ (.pointer (some ⟨X,0,none⟩))) w.heap.size 63 #[X]:=by simpa using g0.set_ 0 (.pointer (some ⟨X,0,none⟩)));have ha:=gy.far (p:=⟨w,0,none⟩) (by show w.heap.size+1≠w.heap.size;omega) (.pointer (some ⟨X,0,none⟩));have g9:=gw.far (p:=⟨w,0,none⟩) (by show w.heap.size+2≠w.heap.size;omega) (.pointer (some ⟨X,0,none⟩));have h5:∀b,X<=b->(w4.setCell ⟨w,0,none⟩ (.pointer (some ⟨X,0,none⟩))).heap[b]? = w4.heap[b]? :=fun b hb=>jQ w4 ⟨w,0,none⟩ _ b (by show b≠w.heap.size;omega);have hh:=hj.setCell (p:=⟨w,0,none⟩) (d5 _) (.pointer (some ⟨X,0,none⟩));generalize w4.setCell ⟨w,0,none⟩ (.pointer (some ⟨X,0,none⟩))=w5 at *;(have h0:au (w5.setCell ⟨w.heap.size+1,0,none⟩ (.int .i64 0)) (w.heap.size+1) 3 #[.int .i64 0]:=by simpa using ha.set_ 0 (.int .i64 0));have h2:=he.far (p:=⟨w.heap.size+1,0,none⟩) (by show w.heap.size≠w.heap.size+1;omega) (.int .i64 0);have hy:=g9.far (p:=⟨w.heap.size+1,0,none⟩) (by show w.heap.size+2≠w.heap.size+1;omega) (.int .i64 0);have h4:∀b,X<=b->(w5.setCell ⟨w.heap.size+1,0,none⟩ (.int .i64 0)).heap[b]? = w4.heap[b]? :=fun b hb=>(jQ w5 ⟨w.heap.size+1,0,none⟩ _ b (by show b≠w.heap.size+1;omega)).trans (h5 b hb);have h7:=hh.setCell (p:=⟨w.heap.size+1,0,none⟩) (jE _) (.int .i64 0);generalize w5.setCell ⟨w.heap.size+1,0,none⟩ (.int .i64 0)=w6 at *;(have hw:au (w6.setCell ⟨w.heap.size+1+1,0,none⟩ (.int .i64 0)) (w.heap.size+2) 29 #[.int .i64 0]:=by simpa using hy.set_ 0 (.int .i64 0));have h1:=h2.far (p:=⟨w.heap.size+1+1,0,none⟩) (by show w.heap.size≠w.heap.size+1+1;omega) (.int .i64 0);have hz:=h0.far (p:=⟨w.heap.size+1+1,0,none⟩) (by show w.heap.size+1≠w.heap.size+1+1;omega) (.int .i64 0);have h3:∀b,X<=b->(w6.setCell ⟨w.heap.size+1+1,0,none⟩ (.int .i64 0)).heap[b]? = w4.heap[b]? :=fun b hb=>(jQ w6 ⟨w.heap.size+1+1,0,none⟩ _ b (by show b≠w.heap.size+1+1;omega)).trans (h4 b hb);have h6:=h7.setCell (p:=⟨w.heap.size+1+1,0,none⟩) (show w.heap.size<=w.heap.size+1+1 by omega) (.int .i64 0);generalize w6.setCell ⟨w.heap.size+1+1,0,none⟩ (.int .i64 0)=w7 at *;have g4:=g7.keep h3;refine kT (f:=72) (args:=#[w,.pointer (some ⟨w.heap.size+1,0,none⟩),.pointer (some ⟨w.heap.size+1+1,0,none⟩)]) (by simp) (by simp[go_sem]) ?_;refine(G5 _ _ _ _).mono ?_;rintro e u' w8⟨rfl,rfl,rfl⟩;have z0:=bg h1;have z1:=bg hz;have z2:w8.cell? ⟨w.heap.size+1+1,0,none⟩=some (.int .i64 0):=bg hw;clear y4 u4 v4 yf uf vf;rw[HF.out];simp[Leaves,settle,results,Tryz.results43,go_sem,z0,z1,z2,pL];exact⟨⟨i,g4⟩,by omega,h6⟩
theorem lZ.reads{B:Nat}{w:World}{v:Value}{l:List cY}(h:lZ B w v l):∃A c,v=.slice A l.length c/\l.length<=c/\cw w w.heap.size 3 A l.length (l.flatMap ou):=by
 obtain⟨A,c,I,J⟩:=h.form;refine⟨A,c,I,J,?_⟩;by_cases U:l.length=0
 ·exact⟨by rw[wE fZ],fun N=>by omega⟩
 ·obtain⟨g,c',D,O,M⟩:=qN h (by omega);rw[I]at D;injection D with e1 e2 e3;subst e1 e3;exact cw.of_own (I▸h:w.ownsRow B _ 3 (.slice (some ⟨g,0,none⟩) l.length c) l.length (l.flatMap ou))
theorem G6{w:World}{A:Option Addr}{B n R:Nat}{xs:List Value}(h:cw w B 3 A n xs)(N:B<=R):fU (· < R) w 3 A n xs:=by
 refine⟨h.1,fun J=>?_⟩;obtain⟨ad,O,hb,hc⟩:=h.2 J;(have M:0<xs.length:=by rw[h.1];omega);have U:=hc 0 xs[0] (gQ M);have D:=sE (show w.cell? ad=some xs[0]from U);obtain⟨b,o,s⟩:=ad;(have I:s=none:=by simpa using D);subst I;refine⟨b,o,O,kH hb N,fun j u hu=>?_⟩;have:=hc j u hu
 rwa [rU]at this
theorem tU{s:ByteArray}{p n:Int}(h:fR s=.err p n):n=12\/n=2\/n=3:=by
 unfold fR at h;split at h
 ·injection h with _ h;exact .inl h.symm
 ·split at h
  ·injection h with _ h;exact .inr (.inl h.symm)
  ·cases hs:d7 s (s.size+1) 0 []with
   |ok l=>rw[hs]at h;cases h
   |bad q=>rw[hs]at h;injection h with _ h;exact .inr (.inr h.symm)
def O4(w:World)(r:wQ)(e:Ending)(w':World):Prop:=
 match r with
 | .toks L=>∃A cp,e=.returned (.tuple #[.slice A L.length cp,.int .i64 0,.int .i64 0])/\L.length<=cp/\L.length<=65537/\cw w' w'.heap.size 3 A L.length (L.flatMap ou)/\Below w w w'
 | .err p n=>e=.returned (.tuple #[.slice none 0 0,.int .i64 p,.int .i64 n])/\Below w w w'
theorem Di(A:Option Addr)(c:Nat)(s:ByteArray)(w:World)(h:fo w A c s)(hT:mH w)(M:s.size<=1000000000):
  Calls Tryz.prog 19 #[.slice A s.size c] w (O4 w (fR s)):=by
 have O:=hid (LG A c s w h hT M);clear h hT;cases N:fR s with
 |toks L=>rw[N]at O;clear N;(go_enter Tryz.func19,Tryz.ntmps19);(go_wp2_with fail);refine O.out.mono ?_;rintro e w1⟨X,i,rfl,D,hX,hB⟩;obtain⟨lv,nv,ns,I⟩:=D.out;obtain⟨x0,x1,x2,x3,-,-,-,-⟩:=ag I.blk;obtain⟨A',cp,rfl,U,hr⟩:=I.toks.reads;have J:=D.few;clear D I O;(go_wp2_with fail);go_ret3;exact⟨A',cp,rfl,U,J,hr,hB⟩
 |err p n=>have hn:=tU N;(have ga:(n != 0)=true:=by rw[kU];omega);rw[N]at O;clear N hn;(go_enter Tryz.func19,Tryz.ntmps19);(go_wp2_with fail);refine O.out.mono ?_;rintro e w1⟨rfl,hB⟩;(go_wp2_with fail);go_ret3;exact⟨rfl,hB⟩
theorem sO(s:ByteArray)(N:s.size<=65536):∀(f i:Nat)(l:List cY)(L:List cY),d7 s f i l=.ok L->mM i l->i<=s.size->∀t∈L,t.text.size<=65536
 |0,_,_,_,h,_,_=>by cases h
 | f+1,i,l,L,h,D,hi=>by
  rw[d7]at h;by_cases M:i<s.size
  ·rw[gE M]at h;cases J:fh s i l with
   |go j l'=>rw[J]at h;obtain⟨_,U,O⟩:=sN s i l N M D j l' J;exact sO s N f j l' L h O U
   |bad q=>rw[J]at h;cases h
  ·rw[gA M]at h;injection h with h;subst h;intro t I;unfold fm at I;split at I
   ·rcases List.mem_append.1 I with I|I
    ·exact D.2 t I
    ·(obtain rfl:t=_:=by simpa using I);show(⟨#[10]⟩:BA).size<=65536;decide
   ·exact D.2 t I
theorem uy{s:ByteArray}{L:List cY}(h:fR s=.toks L):∀t∈L,t.text.size<=65536:=by
 unfold fR at h;split at h
 ·cases h
 ·split at h
  ·cases h
  ·cases hs:d7 s (s.size+1) 0 []with
   |ok l=>rw[hs]at h;injection h with h;subst h;exact sO s (by omega) _ _ _ _ hs ⟨d5 _,fun t h=>by cases h⟩ (gP _)
   |bad q=>rw[hs]at h;cases h
def oa(c:Nat):Int:=match dZ c with|some d=>(d:Int)|none =>-1
theorem iw(c:Nat)(hc:c<2000000)(w:World):Calls Tryz.prog 110 #[.int .i32 (c:Int)] w fun e w'=>e=.returned (.int .i64 (oa c))/\w=w':=by
 by_cases J:48<=c/\c<=57
 ·have I:Hid (oa c=(c:Int)-48):=hid (by unfold oa dZ;rw[gE J];simp only;omega);(have O:decide ((48:Int)<=(c:Int))=true:=by rw[gS];omega);(have N:decide ((c:Int)<=(57:Int))=true:=by rw[gS];omega);have q1:IntKind.i32.wrap ((c:Int)-48)=(c:Int)-48:=qt _ (by omega);have q2:IntKind.i64.wrap ((c:Int)-48)=(c:Int)-48:=gO _ (by omega);(go_enter Tryz.func110,Tryz.ntmps110);(go_wp2_with fail);go_ret;exact⟨(by rw[I.out];first|done|rfl),rfl⟩
 (have D:(decide ((48:Int)<=(c:Int))&&decide ((c:Int)<=(57:Int)))=false:=by rw[Bool.and_eq_false_iff,gK,gK];omega);by_cases M:97<=c/\c<=102
 ·have I:Hid (oa c=(c:Int)-97+10):=hid (by unfold oa dZ;rw[gA J,gE M];simp only;omega);(have e0:decide ((48:Int)<=(c:Int))=true:=by rw[gS];omega);(have h:decide ((c:Int)<=(57:Int))=false:=by rw[gK];omega);(have O:decide ((97:Int)<=(c:Int))=true:=by rw[gS];omega);(have N:decide ((c:Int)<=(102:Int))=true:=by rw[gS];omega);have q1:IntKind.i32.wrap ((c:Int)-97)=(c:Int)-97:=qt _ (by omega);have q2:IntKind.i64.wrap ((c:Int)-97)=(c:Int)-97:=gO _ (by omega);have q3:IntKind.i64.wrap ((c:Int)-97+10)=(c:Int)-97+10:=gO _ (by omega);clear D;(go_enter Tryz.func110,Tryz.ntmps110);(go_wp2_with fail);go_ret;exact⟨(by rw[I.out];first|done|rfl),rfl⟩
 by_cases U:65<=c/\c<=70
 ·have I:Hid (oa c=(c:Int)-65+10):=hid (by unfold oa dZ;rw[gA J,gA M,gE U];simp only;omega);(have e0:decide ((48:Int)<=(c:Int))=true:=by rw[gS];omega);(have h:decide ((c:Int)<=(57:Int))=false:=by rw[gK];omega);(have O:decide ((97:Int)<=(c:Int))=false:=by rw[gK];omega);(have N:decide ((65:Int)<=(c:Int))=true:=by rw[gS];omega);(have e3:decide ((c:Int)<=(70:Int))=true:=by rw[gS];omega);have q1:IntKind.i32.wrap ((c:Int)-65)=(c:Int)-65:=qt _ (by omega);have q2:IntKind.i64.wrap ((c:Int)-65)=(c:Int)-65:=gO _ (by omega);have q3:IntKind.i64.wrap ((c:Int)-65+10)=(c:Int)-65+10:=gO _ (by omega);clear D;(go_enter Tryz.func110,Tryz.ntmps110);(go_wp2_with fail);go_ret;exact⟨(by rw[I.out];first|done|rfl),rfl⟩
 ·have I:Hid (oa c = -1):=hid (by unfold oa dZ;rw[gA J,gA M,gA U]);clear D;cases O:decide ((48:Int)<=(c:Int))<;>cases N:decide ((c:Int)<=(57:Int))<;>cases e3:decide ((97:Int)<=(c:Int))<;>cases e4:decide ((c:Int)<=(102:Int))<;>cases e5:decide ((65:Int)<=(c:Int))<;>cases e6:decide ((c:Int)<=(70:Int));all_goals
   first
    |(exfalso;simp only[gS,gK]at O N e3 e4 e5 e6;omega)
    |(clear J M U;(go_enter Tryz.func110,Tryz.ntmps110);(go_wp2_with fail);go_ret;exact⟨(by rw[I.out];first|done|rfl),rfl⟩)
def rF(B:Nat)(w:World)(v:Value)(l:List Nat):Prop:=w.ownsRow B 3 1 v l.length (l.map fun(d:Nat)=>Value.int .i64 (d:Int))
def EM(B:Nat)(w:World)(v:Value)(l:List UInt8):Prop:=w.ownsRow B 5 1 v l.length (l.map fun c=>Value.int .u8 (c.toNat:Int))
theorem Dj{B:Nat}{w w':World}{e:TypeId}{n:Nat}{v:Value}{xs:List Value}(h:w.ownsRow B e 1 v n xs)(M:∀b,B<=b->b<w.heap.size->w'.heap[b]? = w.heap[b]?):w'.ownsRow B e 1 v n xs:=by
 refine⟨h.1,?_⟩;rcases h.2 with N|⟨g,cap,cur,e,J,I,r⟩
 ·exact .inl N
 ·refine .inr ⟨g,cap,cur,e,J,?_,r⟩;have D:g<w.heap.size:=by
   rcases jZ g w.heap.size with D|hge
   ·exact D
   ·rw[kI hge]at I;cases I
  exact(M g J D).trans I
theorem rm{B:Nat}{w:World}{e:TypeId}{n:Nat}{v:Value}{xs:List Value}(h:w.ownsRow B e 1 v n xs):∃A c,v=.slice A n c/\n<=c:=by
 rcases h.2 with⟨rfl,I⟩|⟨g,cap,cur,rfl,_,_,D,_⟩
 ·exact⟨none,0,by rw[I],by omega⟩
 ·exact⟨_,cap,rfl,D⟩
theorem O5:(Tryz.prog.info? 3).map (fun i=>(i.zero,i.size,i.bytes))=some (some (.int .i64 0),1,8):=by kernel_rfl
theorem infoByte:(Tryz.prog.info? 5).map (fun i=>(i.zero,i.size,i.bytes))=some (some (.int .u8 0),1,1):=by kernel_rfl
theorem BV{ops:Array Oper}{rest:List Oper}{o:Oper}{a:Act}{Q:Exit->Act->World->Prop}(O:o.guard=none)(s x:Operand)
  (ho:o.op=.call { callee:=.builtin .append,args:=#[s,x],argTypes:=#[87,87] })
  (B:Nat)(w1:World)(u:Value)(l:List Nat)(d:Nat)(D:Int)(hs:a.eval s=u)(S:Nat)(hx:a.eval x=.slice (some ⟨S,0,none⟩) 1 1)(hS:w1.heap.size=S)(hD:D=(d:Int))
  (U:rF B w1 u l)(hB:B<=w1.heap.size)(hl:l.length<=1000000)
  (h:∀g c w2,rF B w2 (.slice (some ⟨g,0,none⟩) (l.length+1) c) (l++[d])->Below B w1 w2->wpList Tryz.prog ops Q rest (a.put o.dst (.slice (some ⟨g,0,none⟩) (l.length+1) c)) w2):
  wpList Tryz.prog ops Q (o::rest) a (w1.alloc (.cells #[.int .i64 D] 3)):=by
 subst hS hD;refine vn O fun _ hK=>?_;obtain⟨i0,hi,N,M,J⟩:=qH O5;refine vj _ s x 87 ho B 3 i0 _ 1 8 Tryz.underlying87 hi N M J rfl (by omega) u l.length _ hs (qX U _) ⟨w1,0,none⟩ 1 1 [.int .i64 (d:Int)] hx rfl
  (qx (cs:=#[.int .i64 (d:Int)]) (qq _ _)) (by simp[Value.oneCell']) (by omega) (by unfold maxLen;omega) (by omega) (by rw[jO];omega) _ rfl ?_
 intro g c w2 hown1 I hat _;refine hK _ _ (h g c w2 ?_ ?_)
 ·unfold rF;rw[qa,gJ];exact hown1
 ·have h1:=(gG B w1).alloc hB (.cells #[.int .i64 (d:Int)] 3);exact h1.trans ⟨I.os,I.tape,I.output,I.size,fun k hk=>I.block k (by rw[jO];omega) (fun e=>by have:=(qZ U k e.symm).1;omega)⟩
theorem sP{ops:Array Oper}{rest:List Oper}{o:Oper}{a:Act}{Q:Exit->Act->World->Prop}(O:o.guard=none)(s x:Operand)
  (ho:o.op=.call { callee:=.builtin .append,args:=#[s,x],argTypes:=#[27,27] })
  (B:Nat)(w1:World)(u:Value)(l:List UInt8)(d:UInt8)(D:Int)(hs:a.eval s=u)(S:Nat)(hx:a.eval x=.slice (some ⟨S,0,none⟩) 1 1)(hS:w1.heap.size=S)(hD:D=(d.toNat:Int))
  (U:EM B w1 u l)(hB:B<=w1.heap.size)(hl:l.length<=1000000)
  (h:∀g c w2,EM B w2 (.slice (some ⟨g,0,none⟩) (l.length+1) c) (l++[d])->Below B w1 w2->wpList Tryz.prog ops Q rest (a.put o.dst (.slice (some ⟨g,0,none⟩) (l.length+1) c)) w2):
  wpList Tryz.prog ops Q (o::rest) a (w1.alloc (.cells #[.int .u8 D] 5)):=by
 subst hS hD;refine vn O fun _ hK=>?_;obtain⟨i0,hi,N,M,J⟩:=qH infoByte;refine vj _ s x 27 ho B 5 i0 _ 1 1 Tryz.underlying27 hi N M J rfl (by omega) u l.length _ hs (qX U _) ⟨w1,0,none⟩ 1 1 [.int .u8 (d.toNat:Int)] hx rfl
  (qx (cs:=#[.int .u8 (d.toNat:Int)]) (qq _ _)) (by simp[Value.oneCell']) (by omega) (by unfold maxLen;omega) (by omega) (by rw[jO];omega) _ rfl ?_
 intro g c w2 hown1 I hat _;refine hK _ _ (h g c w2 ?_ ?_)
 ·unfold EM;rw[qa,gJ];exact hown1
 ·have h1:=(gG B w1).alloc hB (.cells #[.int .u8 (d.toNat:Int)] 5);exact h1.trans ⟨I.os,I.tape,I.output,I.size,fun k hk=>I.block k (by rw[jO];omega) (fun e=>by have:=(qZ U k e.symm).1;omega)⟩
theorem EN(c:Nat)(I:0<c)(h:c<100):iF c=c%10::iF (c/10):=by
 unfold iF;by_cases D:c<10
 ·rw[gA (by omega),gE D,Nat.mod_eq_of_lt D,gE (by omega)]
 ·rw[gA (by omega),gA D,gA (by omega),gE (by omega)]
theorem EO:iF 0=[]:=rfl
theorem LH(c:Nat)(h:c<100):∀x∈iF c,x<=9:=by
 unfold iF;intro x D;split at D
 ·cases D
 ·split at D
  ·(obtain rfl:x=c:=by simpa using D);omega
  ·rcases List.mem_cons.1 D with rfl|D
   ·omega
   ·(obtain rfl:x=c/10:=by simpa using D);omega
theorem G7(c:Nat):(iF c).length<=2:=by
 unfold iF;split
 ·simp
 ·split<;>simp
theorem Dk(f:Nat)(I:f<=16):∀(l:List Nat)(m:Nat),(∀x∈l,x<=9)->m<=15->∀x∈d6 f l m,x<=9
 |[],m,_,M,x,D=>LH m (by omega) x D
 |y::r,m,hd,M,x,D=>by
  have J:=hd y (List.mem_cons_self);have hb:y*f<=9*16:=Nat.mul_le_mul J I;rw[d6]at D;rcases List.mem_cons.1 D with rfl|D
  ·omega
  ·exact Dk f I r _ (fun z hz=>hd z (qp _ hz)) (by omega) x D
theorem tV(f:Nat):∀(l:List Nat)(m:Nat),(d6 f l m).length<=l.length+2
 |[],m=>by rw[d6];have:=G7 m;simp;omega
 |y::r,m=>by rw[d6,gM,gM];have:=tV f r ((y*f+m)/10);omega
theorem G8(B:Nat)(v:Value)(l:List Nat)(f m:Nat)(w:World)(M:rF B w v l)(hB:B<=w.heap.size)(hd:∀x∈l,x<=9)(hf:f<=16)(hm:m<=15)(hl:l.length<=1000):
  Calls Tryz.prog 111 #[v,.int .i64 (f:Int),.int .i64 (m:Int)] w fun e w'=>∃v',e=.returned v'/\rF B w' v' (d6 f l m)/\Below B w w':=by
 obtain⟨A,cp,rfl,g0⟩:=rm M;obtain⟨T,hT⟩:∃T,T=d6 f l m:=⟨_,rfl⟩;rw[<-hT];have HT:=hid hT;(have g2:T.length<=1002:=by rw[hT];have:=tV f l m;omega);clear hT;(go_enter Tryz.func111,Tryz.ntmps111);(go_wp2_with fail);go_loopg [2,7,8,11] l.length (fun gg u2 _ _ u11 wr=>∃(i c:Nat)(done:List Nat),i<=l.length/\l.length-i<=gg/\u2=.int .i64 (c:Int)/\u11=.int .i64 (i:Int)/\done.length=i/\rF B wr (.slice A l.length cp) (done++l.drop i)/\Below B w wr/\done++d6 f (l.drop i) c=T/\c<=15)
 case atStart=>exact⟨0,m,[],gP _,by omega,rfl,rfl,rfl,M,gG _ _,HT.out.symm,hm⟩
 case round=>
  clear M hm;obtain⟨i,c,done,hi,gx,rfl,rfl,gm,M,D,hq,hc⟩:=hrel;have HO:=hid M;have HQ:=hid hq;have I:=hid gm;clear M hq gm;by_cases yk:i<l.length
  ·(have gj:(i:Int)<(l.length:Int):=by omega);(have g4:(0:Int)<=(i:Int):=by omega);have ga:=jX yk;have ge:=hd _ (jC yk);generalize l[i]=x at *;have gt:=hid ga;have J:=HO.out;rw[ga]at J;clear ga;obtain⟨g,c',hv,gp,gw⟩:=qN J (by rw[gJ,gM];omega);(have U:(done++x::l.drop (i+1)).length=l.length:=by rw[gJ,gM,gR,I.out];omega);injection hv with e1 e2 e3;subst e1 e3;unfold rF at J;rw[U]at J;have gb:=qT J i (by omega);have gy:=World.ownsRow.frozenAt J i;(have h:((done++x::l.drop (i+1)).map fun(d:Nat)=>Value.int .i64 (d:Int))[i]? = some (.int .i64 (x:Int)):=by rw[qa,List.getElem?_append_right (by rw[jV,I.out];exact d5 _)];simp[I.out]);rw[h]at gb;have hp:x*f<=9*16:=Nat.mul_le_mul ge hf;(have q1:IntKind.i64.wrap ((x:Int)*(f:Int))=((x*f:Nat):Int):=by rw[show(x:Int)*(f:Int)=((x*f:Nat):Int)by simp];exact gO _ (by omega));have HX:=hid (show d6 f (l.drop i) c=(x*f+c)%10::d6 f (l.drop (i+1)) ((x*f+c)/10)by rw[gt.out,d6]);generalize x*f=p at *;have q2:IntKind.i64.wrap ((p:Int)+(c:Int))=(p:Int)+(c:Int):=gO _ (by omega);have gh:=World.ownsRow.stored J i (.int .i64 (((p:Int)+(c:Int))%10));(have O:rF B (wr.setCell ⟨g,i,none⟩ (.int .i64 (((p:Int)+(c:Int))%10))) (.slice (some ⟨g,0,none⟩) l.length cp) ((done++[(p+c)%10])++l.drop (i+1)):=by have h1:=gh.1;(have e:((done++x::l.drop (i+1)).map fun(d:Nat)=>Value.int .i64 (d:Int)).set i (.int .i64 (((p:Int)+(c:Int))%10))=((done++[(p+c)%10])++l.drop (i+1)).map fun(d:Nat)=>Value.int .i64 (d:Int):=by rw[show((p:Int)+(c:Int))%10=(((p+c)%10:Nat):Int)by omega];rw[qa,List.set_append_right _ _ (by rw[jV,I.out];exact d5 _)];simp[I.out]);rw[e]at h1;unfold rF;rw[show((done++[(p+c)%10])++l.drop (i+1)).length=l.length by rw[gJ,gJ,gR,I.out];simp;omega];exact h1);have gd:Below B w (wr.setCell ⟨g,i,none⟩ (.int .i64 (((p:Int)+(c:Int))%10))):=D.setCell (by exact gp) _;have gs:=hid O;have HI:=hid (show(((p:Int)+(c:Int))/10)=(((p+c)/10:Nat):Int)by omega);(have gi:(p+c)/10<=15:=by omega);clear gh O J h ge U e2;(go_wp2_with fail);go_roundg (l.length-(i+1))
   case measure=>omega
   case rel=>exact⟨i+1,(p+c)/10,done++[(p+c)%10],by omega,d5 _,by rw[HI.out],by go_num,by rw[gJ,I.out];rfl,gs.out,gd,by rw[<-HQ.out,HX.out,gL];rfl,gi⟩
  ·(have gj:¬ (i:Int)<(l.length:Int):=by omega);have N:Hid (done++iF c=T):=hid (by rw[<-HQ.out,jU (by omega),d6]);have gn:Hid (rF B wr (.slice A l.length cp) done):=hid (by have:=HO.out;rw[jU (by omega),kG]at this;exact this);(have gl:done.length=l.length:=by have:=I.out;omega);have g5:=hid gl;clear HQ HO I gl;rename World=>wo;(go_wp2_with fail);go_loopg [0,2] c (fun gg u0 u2 wr=>∃(L:List Nat)(d:Nat),rF B wr u0 L/\u2=.int .i64 (d:Int)/\L++iF d=T/\Below B w wr/\d<=15/\d<=gg)
   case atStart=>exact⟨done,c,gn.out,rfl,N.out,D,hc,d5 _⟩
   case round=>
    clear gn N D hc;obtain⟨L,d,M,rfl,hq,D,gu,gz⟩:=hrel;have HO:=hid M;have HQ:=hid hq;obtain⟨A1,c1,hu,g1⟩:=rm M;clear M hq;subst hu;by_cases gq:0<d
    ·(have gv:(0:Int)<(d:Int):=by omega);have N:=hid (show(L++[d%10])++iF (d/10)=T by rw[<-HQ.out,EN d gq (by omega),gL];rfl);(have g3:L.length<=1002:=by have:=jH List.length HQ.out;rw[gJ]at this;omega);have HI:=hid (show((d:Int)/10)=((d/10:Nat):Int)by omega);have HM:=hid (show((d:Int)%10)=((d%10:Nat):Int)by omega);clear HQ;go_wp2_with (at_builtin;refine BV rfl (.tmp 31) (.tmp 34) rfl B _ _ L (d%10) _ rfl _ rfl rfl HM.out HO.out (by have:=D.size;omega) (by omega) ?_;intro g c w2 gr gd);go_roundg (d/10)
     case measure=>omega
     case rel=>exact⟨L++[d%10],d/10,gr,by rw[HI.out],N.out,D.trans gd,by omega,d5 _⟩
    ·(obtain rfl:d=0:=by omega);have HL:Hid (L=T):=hid (by rw[<-HQ.out,EO,kG]);(go_wp2_with fail);go_ret;exact⟨_,rfl,by rw[<-HL.out];exact HO.out,D⟩
def bV:Ending:=.panicked [{ v:=.iface 112 (.agg #[]),recovered:=false }]
theorem dx(w:World):Calls Tryz.prog 113 #[.bool true] w fun e w'=>e=.returned (.tuple #[])/\w=w':=by(go_enter Tryz.func113,Tryz.ntmps113);(go_wp2_with fail);go_end0;exact⟨rfl,rfl⟩
theorem cH(w:World):Calls Tryz.prog 113 #[.bool false] w fun e w'=>e=bV/\w=w':=by(go_enter Tryz.func113,Tryz.ntmps113);(go_wp2_with fail);exact⟨rfl,rfl,rfl⟩
def O6(w:World)(r:Option Nat)(e:Ending)(w':World):Prop:=
 Below w w w'/\match r with
 |some v=>e=.returned (.int .i64 (v:Int))
 |none=>e=bV
def uW(radix:Nat)(r:List UInt8)(v:Nat):Option Nat->Option Nat
 |none=>none
 |some d=>if d<radix then fM radix r (v*radix+d)else none
theorem sQ(radix:Nat)(c:UInt8)(r:List UInt8)(v:Nat):fM radix (c::r) v=uW radix r v (dZ c.toNat):=by rw[fM];cases dZ c.toNat<;>rfl
theorem G9(c d:Nat)(D:dZ c=some d):d<=15:=by
 unfold dZ at D;split at D
 ·injection D with D;omega
 ·split at D
  ·injection D with D;omega
  ·split at D
   ·injection D with D;omega
   ·cases D
theorem sR(c:Nat)(h:128<=c):dZ c=none:=by unfold dZ;rw[gA (by omega),gA (by omega),gA (by omega)]
theorem EP(s:ByteArray)(i:Nat):(Utf8.decode s i).1<2000000:=by
 have I:=eU s i;rw[mZ,GX];split
 ·simp only;omega
 ·split
  ·split<;>simp only<;>omega
  ·split
   ·split<;>simp only<;>omega
   ·split
    ·split
     ·rename_i D;have:=D.2;unfold Utf8.valid at this;simp at this;simp only;omega
     ·simp only;omega
    ·simp only;omega
theorem BW(s:ByteArray)(n:Nat):(s.extract 0 n).data.toList=s.data.toList.take n:=by rw[vr];simp
theorem o0(s:ByteArray)(n radix:Nat)(hn:n<=8)(hr:radix<=16)(w:World):
  Calls Tryz.prog 195 #[.string s,.int .i64 (n:Int),.int .i64 (radix:Int)] w (O6 w (cB s.data.toList n radix)):=by
 obtain⟨R,hR⟩:∃R,R=cB s.data.toList n radix:=⟨_,rfl⟩;rw[<-hR];have HR:=hid hR;clear hR;have h:s.data.toList.length=s.size:=rfl;by_cases O:n<=s.size
 rotate_left
 ·have U:Hid (R=none):=hid (by rw[HR.out,cB,gA (by rw[h];exact O)]);(have hd:decide (n<=s.size)=false:=by rw[gK];exact O);(have gq:decide ((n:Int)<=(s.size:Int))=false:=by rw[gK];omega);clear O HR h;(go_enter Tryz.func195,Tryz.ntmps195);(go_wp2_with fail);refine(cH _).mono ?_;rintro e w2⟨rfl,rfl⟩;unfold bV;refine⟨rfl,?_⟩;rw[U.out];exact⟨gG _ _,rfl⟩
 have gm:Hid (fM radix ((s.extract 0 n).data.toList) 0=R):=hid (by rw[HR.out,cB,gE (by rw[h];exact O),BW]);have gr:=hid (show(s.extract 0 n).size=n by rw[jT];omega);(have hd:decide (n<=s.size)=true:=by rw[gS];exact O);(have gq:decide ((n:Int)<=(s.size:Int))=true:=by rw[gS];omega);(have p0:(0:Int)<=(n:Int):=by omega);clear HR h;(go_enter Tryz.func195,Tryz.ntmps195);(go_wp2_with fail);refine(dx _).mono ?_;rintro e w2⟨rfl,rfl⟩;(go_wp2_with fail);have gd:=qz w (s.extract 0 n) 0;have gl:Below w w (w.iter (s.extract 0 n) 0):=(gG _ w).alloc (d5 _) _;generalize s.extract 0 n=t at *;(have gw:t.size<=8:=by have:=gr.out;omega);go_loopg [7,9,10,20,21] t.size (fun g u7 _ _ _ _ wr=>∃j v:Nat,j<=t.size/\t.size-j<=g/\wr.heap[w.heap.size]? = some (.stringIter t j)/\Below w w wr/\u7=.int .i64 (v:Int)/\v<16^j/\fM radix (t.data.toList.drop j) v=R)
 case atStart=>exact⟨0,0,gP _,by omega,gd,gl,rfl,by decide,by rw[kW];exact gm.out⟩
 case round=>
  clear gd gl gm;obtain⟨j,v,hj,gx,hit,hB,rfl,gu,hq⟩:=hrel;have gh:=hid hit;have HQ:=hid hq;clear hit hq;(have gv:v<4294967296:=by have h1:(16:Nat)^j<=16^8:=Nat.pow_le_pow_right (by omega) (by omega);(have h2:(16:Nat)^8=4294967296:=by decide);omega);by_cases J:j<t.size
  ·have D:=fun ty=>qI (P:=Tryz.prog) wr w.heap.size t j ty gh.out J;obtain⟨c,rr,ga,gg,ge⟩:=mT t j J;by_cases gb:aa t j<128
   ·have hd2:=l6 t j gb;rw[hd2]at D;have N:Hid (uW radix rr v (dZ (aa t j))=R):=hid (by rw[<-HQ.out,ga,sQ,gg]);have gs:=hid ge;have j1:=qL wr w.heap.size t j (j+1) gh.out;have j2:Below w w (wr.iterAt w.heap.size t (j+1)):=cW hB (d5 _);generalize wr.iterAt w.heap.size t (j+1)=W1 at D j1 j2;have J1:=hid j1;clear hd2 ga gg ge j1 HQ;generalize aa t j=bb at *;cases I:dZ bb with
    |none=>have U:Hid (R=none):=hid (by rw[<-N.out,I];rfl);(have M:oa bb = -1:=by unfold oa;rw[I]);clear N I;(go_wp2_with fail);refine(iw bb (by omega) _).mono ?_;rw[M];rintro e w3⟨rfl,rfl⟩;(go_wp2_with fail);refine(cH _).mono ?_;rintro e w3⟨rfl,rfl⟩;unfold bV;refine⟨rfl,?_⟩;rw[U.out];exact⟨j2,rfl⟩
    | some d=>
     (have M:oa bb=(d:Int):=by unfold oa;rw[I]);have gt:=G9 bb d I;(have e0:decide ((0:Int)<=(d:Int))=true:=by rw[gS];omega);by_cases yk:d<radix
     ·have U:Hid (fM radix rr (v*radix+d)=R):=hid (by rw[<-N.out,I,uW,gE yk]);(have e1:decide ((d:Int)<(radix:Int))=true:=by rw[gS];omega);have hp:v*radix<=4294967295*16:=Nat.mul_le_mul (by omega) hr;(have gn:v*radix+d<16^(j+1):=by have h1:v*radix<=v*16:=Nat.mul_le_mul_left _ hr;rw[Nat.pow_succ];omega);(have q1:IntKind.i64.wrap ((v:Int)*(radix:Int))=((v*radix:Nat):Int):=by rw[show(v:Int)*(radix:Int)=((v*radix:Nat):Int)by simp];exact gO _ (by omega));clear N I;generalize v*radix=p at *;have q2:IntKind.i64.wrap ((p:Int)+(d:Int))=(p:Int)+(d:Int):=gO _ (by omega);(go_wp2_with fail);refine(iw bb (by omega) _).mono ?_;rw[M];rintro e w3⟨rfl,rfl⟩;(go_wp2_with fail);refine(dx _).mono ?_;rintro e w3⟨rfl,rfl⟩;(go_wp2_with fail);go_roundg (t.size-(j+1))
      case measure=>omega
      case rel=>exact⟨j+1,p+d,by omega,d5 _,J1.out,j2,by go_num,gn,by rw[<-gs.out];exact U.out⟩
     ·have U:Hid (R=none):=hid (by rw[<-N.out,I,uW,gA yk]);(have e1:decide ((d:Int)<(radix:Int))=false:=by rw[gK];omega);clear N I;(go_wp2_with fail);refine(iw bb (by omega) _).mono ?_;rw[M];rintro e w3⟨rfl,rfl⟩;(go_wp2_with fail);refine(cH _).mono ?_;rintro e w3⟨rfl,rfl⟩;unfold bV;refine⟨rfl,?_⟩;rw[U.out];exact⟨j2,rfl⟩
   ·have hh:=ln t j J (by omega);have gi:=EP t j;have U:Hid (R=none):=hid (by rw[<-HQ.out,ga,sQ,sR _ (by omega)];rfl);have gj:=hh.1;clear hh gb ga gg ge;generalize Utf8.decode t j=q at *;obtain⟨r,k⟩:=q;simp only at gj D gi;have j2:Below w w (wr.iterAt w.heap.size t (j+k)):=cW hB (d5 _);generalize wr.iterAt w.heap.size t (j+k)=W1 at D j2;(have M:oa r = -1:=by unfold oa;rw[sR r gj]);(go_wp2_with fail);refine(iw r gi _).mono ?_;rw[M];rintro e w3⟨rfl,rfl⟩;(go_wp2_with fail);refine(cH _).mono ?_;rintro e w3⟨rfl,rfl⟩;unfold bV;refine⟨rfl,?_⟩;rw[U.out];exact⟨j2,rfl⟩
  ·have gp:=fun ty=>qA (P:=Tryz.prog) wr w.heap.size t j ty gh.out J;have U:Hid (R=some v):=hid (by rw[<-HQ.out,jU (by have:t.data.toList.length=t.size:=rfl;omega),fM]);(go_wp2_with fail);go_ret;rw[U.out];exact⟨hB,rfl⟩
def FZ:List (Int×Int):=[(97,7),(98,8),(102,12),(110,10),(114,13),(116,9),(118,11),(92,92),(34,34)]
def EQ{H:Type}(D:DataW H):List (Int×Int)->DataW H
 |[]=>D
 |p::r=>EQ (D.put (.int .u8 p.1) (.lit (.int .u8 p.2))) r
theorem sS{H:Type}(w:World){ops:Array Oper}{rest:List Oper}{o:Oper}{a:Act}{Q:Exit->Act->World->Prop}
  (hg:o.guard=none)(m:Operand)(kk vv:Int)(O:o.op=Op.insert 156 m (.const (.int .u8 kk)) (.const (.int .u8 vv)))(hk:0<=kk/\kk<=255)(ga:0<=vv/\vv<=255)(b n:Nat)(D:DataW H)
  (hm:a.eval m=.map (some b))(J:w.ownsMap Tryz.prog 5 (plainElem Tryz.prog 5) b n D)(hn:n<100)
  (hK:∀w',w'.ownsMap Tryz.prog 5 (plainElem Tryz.prog 5) b (n+1) (D.put (.int .u8 kk) (.lit (.int .u8 vv)))->w.grownBy w' (some b)->wpList Tryz.prog ops Q rest (a.put o.dst undef) w'):
  wpList Tryz.prog ops Q (o::rest) a w:=by refine vn hg fun K' hK'=>?_;(have N:(Lit.int .u8 kk).wf=true:=by simp[Lit.wf,IntKind.min,IntKind.max,IntKind.signed,IntKind.bits];omega);(have M:(Lit.int .u8 vv).wf=true:=by simp[Lit.wf,IntKind.min,IntKind.max,IntKind.signed,IntKind.bits];omega);obtain⟨w',I,h,U⟩:=J.update (Maps.int_keyed Tryz.underlying5) Tryz.underlying156 (by unfold maxLen;omega) (Maps.keyOf_int_mk Tryz.underlying5 N) (plainElem_int Tryz.underlying5 M);unfold Oper.wp;have e1:a.eval (.const (.int .u8 kk))=.int .u8 kk:=rfl;have e2:a.eval (.const (.int .u8 vv))=.int .u8 vv:=rfl;simp[execOp,O,hm,e1,e2,I,Result.andThen];exact hK' _ _ (hK w' h U)
end
end Go.Proofs.YtiebcdeafofgdaaGreatDoor
