/-
  Parts of the proof: Shelf5 Sstep Pwrong Bytes Scatch. By an AI agent.
-/
import Derived.Test.YtiebcdeafofgdaaGreatDoorJ00
import Derived.Test.YtiebcdeafofgdaaGreatDoorJ15
import Derived.Test.YtiebcdeafofgdaaGreatDoorJ17
import Derived.Test.YtiebcdeafofgdaaGreatDoorJ01
import Derived.Lib.SlBytesRow
import Derived.Shelf.Unicode.DecodeSlow
import Derived.Lib.BufferRead
import Derived.BigQuiet
import Derived.Defers
import Derived.Recover
open Go.Proofs.Tryz
set_option maxRecDepth 100000
set_option maxHeartbeats 8000000
namespace Go.Proofs.YtiebcdeafofgdaaGreatDoor
section
open Go.RowKit Go.Lib Go.Proofs
theorem vp:type_of% @Go.wpS_region:=@Go.wpS_region
structure lF(w:World):Prop where
 tab:cP w
 u8:Lib.Utf8Tabs 0 1 w
theorem lF.below{w w':World}(h:lF w)(hb:Below w w w'):lF w':=⟨h.tab.below hb,Go.Proofs.Utf8Tabs_below h.u8 hb⟩
theorem ye(g o c j:Nat)(s:ByteArray)(w:World)(I:lF w)(hb:Lib.Bytes w g o s)(J:j<s.size):
  Calls prog 94 #[.slice (some ⟨g,o+j,none⟩) (s.size-j) (c-j)] w fun e w'=>e=.returned (.tuple #[.int .i32 (Utf8.decode s j).1,.int .i64 (Utf8.decode s j).2])/\Below w w w':=by(have D:(s.extract j s.size).size=s.size-j:=by rw[jW];omega);have h:=Any7.utf8_DecodeRune Tryz.laysDecode (s.extract j s.size) g (o+j) (c-j) w I.u8 (fun m hm=>by rw[D]at hm;rw[ur,fx,show o+j+m=o+(j+m)by omega,hb (j+m) (by omega)];(have:(s[j+m]'(by omega)).toNat=ac s (j+m):=by unfold ac;rw[gR,gN (by show j+m<s.data.toList.length;have:s.data.toList.length=s.size:=rfl;omega)];rfl);rw[this]);rw[D]at h;(have hd:Lib.decodeGo (s.extract j s.size)=Utf8.decode s j:=by unfold Lib.decodeGo;rw[d5 (by rw[D];omega),BP,jD]);rw[hd]at h;exact h
theorem ut(s old new:ByteArray)(w:World)(J:cP w)(hs:s.size<=65536)(M:1<=old.size)(D:new.size=0):
  Calls prog 116 #[s,old,new] w fun e w'=>
   e=.returned (.string ⟨(Lib.replaceAll s.data.toList old.data.toList new.data.toList).toArray⟩)/\Below w w w':=by obtain⟨m,I⟩:=J;exact Any.strings_ReplaceAll Tryz.laysReplace Tryz.xReplace s old new m w (by omega) I M (by rw[D];omega)
theorem lw(r:Int)(w:World):Calls prog 196 #[.int .i32 r] w fun e w'=>e=.returned (.bool (Lib.validRune r))/\w'=w:=by exact(Any.utf8_ValidRune Tryz.laysValid r w)
def OF(B b:Nat)(bs:List Value)(w:World):Prop:=Lib.IsBuilder 129 5 B b bs w
theorem tN(B b:Nat)(bs:List Value)(s:ByteArray)(w:World)(h:OF B b bs w)(D:bs.length+s.size<=140737488355328)(I:B<=w.heap.size):
  Calls prog 146 #[b,s] w fun e w'=>(∃v,e=.returned v)/\OF B b (bs++Lib.strCells s) w'/\Below B w w':=
 (Any.Builder_WriteString (P:=prog) (ρ:=Tryz.laysReplace_ren) { Tryz.laysReplace with } Tryz.xReplace B b bs s w h D I).mono fun _ _ h=>⟨⟨_,h.1⟩,.inr h.2.1,h.2.2⟩
def Rj:Go.Shelf.Ren:={ Tryz.laysReplace_ren with f:=fun|167=>147|n=>Tryz.laysReplace_ren.f n }
theorem RH:Go.Proofs.Lays.n167 prog Rj:=
 {Tryz.laysReplace with
  f167:=func147.trans (jM some (by kernel_rfl))
  f240:=func197.trans (jM some (by kernel_rfl))
  f276:=Tryz.laysReplace.f276.trans (jM some (by kernel_rfl)) }
theorem TZ:Go.Proofs.Builder.Extra prog Rj:={
 sizeBuilder:=by kernel_rfl
 liesBuilder:=by kernel_rfl
 t5:=underlying5
 a5:=isAgg5
 z5:=sizeOf5
 v5:=zeroValue5
 infoByte:=by kernel_rfl
 cellsByte:=by kernel_rfl
 sizeByte:=by kernel_rfl
 neB5:=by decide }
theorem yg(B b:Nat)(bs:List Value)(c:Int)(w:World)(h:OF B b bs w)(D:bs.length+1<=140737488355328)(I:B<=w.heap.size):
  Calls prog 147 #[b,.int .u8 c] w fun e w'=>e=.returned .nilIface/\OF B b (bs++[.int .u8 c]) w'/\Below B w w':=
 (Any.Builder_WriteByte RH TZ B b bs c w h D I).mono fun _ _ h=>⟨h.1,.inr h.2.1,h.2.2⟩
theorem BQ(B b:Nat)(l:List UInt8)(w:World)(h:OF B b (Lib.byteCells l) w)(D:B<=w.heap.size):
  Calls prog 148 #[b] w fun e w'=>e=.returned (.string ⟨l.toArray⟩)/\Below B w w':=
 Any.Builder_String_any Tryz.laysBString Tryz.xBString B b l w h D
def ey(s:ByteArray)(i:Nat)(l:List cO):RO:=
 if i=0/\Lib.hasPrefix s.data.toList [239,187,191]=true then .go 3 l
 else if ac s i=10 then .go (i+1) (dY l i)
 else if ac s i=32\/ac s i=9\/ac s i=13 then .go (i+1) l
 else match fR s i l with
  |some r=>r
  |none=>
   if aJ (ac s i:Int)=true then .go (i+bQ (s.data.toList.drop i)) (l++[⟨bM (s.extract i (i+bQ (s.data.toList.drop i)))+1,s.extract i (i+bQ (s.data.toList.drop i)),i⟩])
   else if av (ac s i:Int)=true then .go (i+bQ (s.data.toList.drop i)) (l++[⟨4,s.extract i (i+bQ (s.data.toList.drop i)),i⟩])
   else if ac s i=34\/ac s i=96 then rN s i l
   else lQ s i l
inductive Rl where
 |ok (l:List cO)
 |bad (p:Nat)
def dG(s:ByteArray):Nat->Nat->List cO->Rl
 |0,_,_=>.bad 0
 | g+1,i,l=>
  if i<s.size then
   match ey s i l with
   | .go j l'=>dG s g j l'
   | .bad p=>.bad p
  else .ok (dY l (s.size:Int))
inductive uw where
 |toks (l:List cO)
 |err (p:Int) (e:Int)
def BX:Rl->uw
 | .ok l=>.toks l
 | .bad p=>.err p 3
def fy(s:ByteArray):uw:=
 if 65536<s.size then .err 65536 12
 else match lq s with
  |some p=>.err p 2
  |none=>BX (dG s (s.size+1) 0 [])
def lR(i:Nat)(l:List cO):Prop:=l.length<=i/\∀t∈l,t.text.size<=65536
theorem lR.push{i j:Nat}{l:List cO}{t:cO}(h:lR i l)(J:i+1<=j)(I:t.text.size<=65536):lR j (l++[t]):=by
 refine⟨by rw[gL];have:=h.1;simp;omega,fun u D=>?_⟩;rcases List.mem_append.1 D with D|D
 ·exact h.2 u D
 ·(obtain rfl:u=t:=by simpa using D);exact I
theorem lR.le{i j:Nat}{l:List cO}(h:lR i l)(D:i<=j):lR j l:=⟨kC h.1 D,h.2⟩
theorem lR.line{i j:Nat}{l:List cO}(h:lR i l)(D:i+1<=j)(p:Int):lR j (dY l p):=by
 unfold dY;split
 ·exact h.push D (by show(1:Nat)<=65536;omega)
 ·exact h.le (by omega)
theorem nS(s:ByteArray)(i j:Nat)(h:s.size<=65536):(s.extract i j).size<=65536:=by rw[jW];omega
theorem BY(s:ByteArray)(i:Nat):(s.data.toList.drop i).length=s.size-i:=by rw[gY];rfl
theorem tw(l:List UInt8)(c:UInt8)(r:List UInt8)(h:l=c::r)(D:aL (c.toNat:Int)=true):1<=bQ l:=by subst h;unfold bQ;rw[qB,gF (by simpa using D)];simp
theorem BZ(s:ByteArray)(i:Nat)(D:i<s.size):∃c r,s.data.toList.drop i=c::r/\c.toNat=ac s i:=by obtain⟨c,r,J,I,_⟩:=lZ s i D;exact⟨c,r,J,I⟩
theorem rP (s:ByteArray)(i:Nat)(l:List cO)(hs:s.size<=65536)(hi:i<s.size)(h:lR i l)(j:Nat)(l':List cO)(D:ey s i l=.go j l'):i<j/\j<=s.size/\lR j l':=by
 unfold ey at D;split at D
 ·rename_i h0;injection D with e1 I;subst e1 I;have h3:3<=s.size:=by
   show 3<=s.data.toList.length;have N:=h0.2;cases hq:s.data.toList with
   |nil=>rw[hq]at N;simp[Lib.hasPrefix]at N
   | cons a r=>cases r with
     |nil=>rw[hq]at N;simp[Lib.hasPrefix]at N
     | cons b r=>cases r with
       |nil=>rw[hq]at N;simp[Lib.hasPrefix]at N
       |cons c r=>simp
  exact⟨by omega,h3,h.le (by omega)⟩
 ·split at D
  ·injection D with e1 I;subst e1 I;exact⟨by omega,by omega,h.line (gA _) _⟩
  ·split at D
   ·injection D with e1 I;subst e1 I;exact⟨by omega,by omega,h.le (by omega)⟩
   ·have hd:=BY s i;cases J:fR s i l with
    | some r=>
     rw[J]at D;have D:r=.go j l':=D;subst D;unfold fR at J;split at J
     ·rename_i hp;have hb:=uv _ hp;injection J with J;injection J with e1 I;subst e1 I;exact⟨by omega,by omega,h.le (by omega)⟩
     ·split at J
      ·split at J
       ·injection J with J;cases J
       ·rename_i hx;have M:=Lib.index_room ((s.data.toList.drop i).drop 2) [42,47] (by omega);rw[gY,hd]at M;injection J with J;injection J with e1 I;subst e1 I;(have h2:i+((Lib.index ((s.data.toList.drop i).drop 2) [42,47]).toNat+4)<=s.size:=by have I:(([42,47]:List UInt8).length:Int)=2:=rfl;rw[I]at M;omega);refine⟨by omega,h2,?_⟩;split
        ·exact h.line (by omega) _
        ·exact h.le (by omega)
      ·cases J
    | none=>
     rw[J]at D;obtain⟨c,r,O,U⟩:=BZ s i hi;have hw:=DC (s.data.toList.drop i);simp only at D;split at D
     ·rename_i hl;have hp:=tw _ c r O (by rw[U];unfold aL;rw[hl];rfl);injection D with e1 I;subst e1 I;exact⟨by omega,by omega,h.push (by omega) (nS _ _ _ hs)⟩
     ·split at D
      ·rename_i hl;have hp:=tw _ c r O (by rw[U];unfold aL;rw[hl];simp);injection D with e1 I;subst e1 I;exact⟨by omega,by omega,h.push (by omega) (nS _ _ _ hs)⟩
      ·split at D
       ·unfold rN at D;split at D
        ·rename_i k hk;have hb:=rO _ _ _ _ _ hk;rw[BY]at hb;injection D with e1 I;subst e1 I;exact⟨by omega,by omega,h.push (by omega) (nS _ _ _ hs)⟩
        ·cases D
       ·unfold lQ at D;split at D
        ·cases D
        ·rename_i ga;have hb:dC s i<=s.size-i:=by
          unfold dC;split
          ·rename_i h;exact h.1
          ·split
           ·rename_i h;exact h.1
           ·split
            ·rename_i h;exact h.1
            ·omega
         injection D with e1 I;subst e1 I;exact⟨by omega,by omega,h.push (by omega) (nS _ _ _ hs)⟩
theorem DF(X:Nat)(s:ByteArray)(i:Nat)(l:List cO)(w:World)(h:f6 w X s i l)(U:cP w)(I:i<s.size)(hv:lR i l):
  Calls prog 73 #[X] w (fU X s w (ey s i l) (.tuple #[])):=by
 (have O:l.length+1<=65537:=by have:=hv.1;have:=h.most;omega);have D:=hv.2;unfold ey;by_cases h0:i=0/\Lib.hasPrefix s.data.toList [239,187,191]=true
 ·rw[gF h0];exact Gh X s i l w h I h0.1 h0.2
 rw[d5 h0];have M:i=0->Lib.hasPrefix s.data.toList [239,187,191]=false:=fun hz=>by
  cases hp:Lib.hasPrefix s.data.toList [239,187,191]with
  |false=>rfl
  |true=>exact absurd ⟨hz,hp⟩ h0
 by_cases h1:ac s i=10
 ·rw[gF h1];exact OJ X s i l w h I M h1 O U D
 rw[d5 h1];by_cases h2:ac s i=32\/ac s i=9\/ac s i=13
 ·rw[gF h2];exact DD X s i l w h I M _ h2 rfl
 rw[d5 h2];(have hn:ac s i≠10/\ac s i≠32/\ac s i≠9/\ac s i≠13:=by omega);cases hr:fR s i l with
 |some r=>exact Gi X s i l w h I M hn O U D r hr
 |none=>
  simp only;by_cases J:aJ (ac s i:Int)=true
  ·rw[gF J];exact BV X s i l w h I M hn O U D hr J
  rw[d5 J];have J:=Bool.eq_false_iff.2 J;by_cases N:av (ac s i:Int)=true
  ·rw[gF N];exact BW X s i l w h I M hn O U D hr J N
  rw[d5 N];have N:=Bool.eq_false_iff.2 N;by_cases h5:ac s i=34\/ac s i=96
  ·rw[gF h5];exact DE X s i l w h I M hn O U D hr J N _ h5 rfl
  rw[d5 h5];exact Gj X s i l w h I M hn O U D hr J N (by omega)
end
section
open Go.RowKit Go.Lib Go.Proofs
attribute [local go_sem ↓] Go.wp_at_zero Go.wp_at_succ
theorem Tk:prog.underlying 27=some (.slice (prog.elem 27)):=by kernel_rfl
theorem RM:prog.elem 27=5:=by kernel_rfl
theorem Tl(w:World):(sizeOf (prog.elem 27)).run prog w=.ok 1 w:=by rw[RM];exact sizeOf5 w
theorem yh(g o n c k:Nat)(I:k<n)(D:n<=c)(W:World):(Instr.slice 27 (.slice (some ⟨g,o,none⟩) n c) (some (.int .i64 (k:Int))) none none).run prog W=.ok (.slice (some ⟨g,o+k,none⟩) (n-k) (c-k)) W:=by rw[run_slice_l (P:=prog) W 27 _ n c Tk .i64 (k:Int) (by omega) (by omega),Tl];simp only[Result.andThen,sliced,Int.toNat_natCast];rw[d5 (by omega)];simp[oI]
def sL(r:Option Nat):Int:=match r with|some i=>(i:Int)|none =>-1
theorem Gc(g o c:Nat)(s:ByteArray)(w:World)(hT:lF w)(hb:Lib.Bytes w g o s)(hg:g<w.heap.size)(hc:s.size<=c)(gs:s.size<=1000000000):
  Calls prog 71 #[.slice (some ⟨g,o,none⟩) s.size c] w fun e w'=>e=.returned (.int .i64 (sL (lq s)))/\Below w w w':=by
 have J:=hid (fun w'(hB:Below w w w')j(hj:j<s.size)=>ye g o c j s w' (hT.below hB) (fun i hi=>(kY (a:=⟨g,o+i,none⟩) (hB.block g hg)).trans (hb i hi)) hj);have gp:=run_convert_whole (P:=prog) w 27 5 9 underlying27 underlying5 underlying9 g o s hb c;have hcut:=fun k hk W=>yh g o s.size c k hk hc W;obtain⟨R,hR⟩:∃R,R=lq s:=⟨_,rfl⟩;rw[<-hR];have gq:Hid (ig s s.size 0=R):=hid hR.symm;clear hb hT hR;(go_enter func71,ntmps71);go_wp2_with fail;clear gp;go_loopg [3,4,5,6,10,11] s.size (fun gg _ _ _ _ _ _ wr=>∃j f:Nat,j<=s.size/\s.size-j<=gg/\wr.heap[w.heap.size]? = some (.stringIter s j)/\Below w w wr/\ig s f j=R/\s.size-j<=f)
 case atStart=>exact⟨0,s.size,gP _,by omega,qE w _ 0,(gG w.heap.size w).alloc (gA _) _,gq.out,by omega⟩
 case round=>
  obtain⟨j,f,hj,gw,hit,U,gi,hf⟩:=hrel;have ge:=hid hit;have gd:=hid gi;clear hit gi;by_cases I:j<s.size
  ·obtain⟨f1,rfl⟩:∃f1,f=f1+1:=⟨f-1,by omega⟩;have HQ:=hid (fun(_:Nat)=>show(if(Utf8.decode s j).1=0\/((Utf8.decode s j).1=65533/\(Utf8.decode s j).2=1)\/((Utf8.decode s j).1=65279/\0<j)then some j else ig s f1 (j+(Utf8.decode s j).2))=R by have:=gd.out;rw[ig,gF I]at this;exact this);have O:=fun ty=>qP (P:=prog) wr w.heap.size s j ty ge.out I;have yk:1<=(Utf8.decode s j).2/\j+(Utf8.decode s j).2<=s.size:=by
    by_cases gj:ac s j<128
    ·rw[ld s j gj];exact⟨gA _,I⟩
    ·have:=iy s j I (by omega);exact⟨this.2.1,this.2.2.1⟩
   have J:=hid (fun w'(hB:Below w w w')=>J.out w' hB j I);generalize Utf8.decode s j=q at *;obtain⟨r,k⟩:=q;simp only at yk O HQ J;obtain⟨gu,gt⟩:=yk;have j1:=qT wr w.heap.size s j (j+k) ge.out;have M:Below w w (wr.iterAt w.heap.size s (j+k)):=cF U (gA _);have j0:w.heap.size<(wr.iterAt w.heap.size s (j+k)).heap.size:=by
    rcases kN w.heap.size (wr.iterAt w.heap.size s (j+k)).heap.size with h|h
    ·exact h
    ·rw[kO h]at j1;cases j1
   generalize wr.iterAt w.heap.size s (j+k)=W1 at O j1 M j0;have gx:=hcut j I;have J1:=hid j1;have hq:=trivial;clear j1 U gd;by_cases gh:r=0
   ·have HC:=hid (show(r=0\/(r=65533/\k=1)\/(r=65279/\0<j))by omega);subst gh;have N:Hid (R=some j):=hid (by rw[<-HQ.out f1,gF HC.out]);clear hq;go_wp2_with fail;refine(J.out _ M).mono ?_;rintro e w3⟨rfl,D⟩;go_wp2_with fail;go_ret;exact⟨by rw[N.out];rfl,aD M D⟩
   ·by_cases gb:r=65533
    ·by_cases gn:k=1
     ·have HC:=hid (show(r=0\/(r=65533/\k=1)\/(r=65279/\0<j))by omega);subst gb gn;have N:Hid (R=some j):=hid (by rw[<-HQ.out f1,gF HC.out]);clear hq;go_wp2_with fail;refine(J.out _ M).mono ?_;rintro e w3⟨rfl,D⟩;go_wp2_with fail;go_ret;exact⟨by rw[N.out];rfl,aD M D⟩
     ·have HC:=hid (show ¬ (r=0\/(r=65533/\k=1)\/(r=65279/\0<j))by omega);(have ek:((k:Int)==1)=false:=by rw[gC];omega);subst gb;have N:Hid (ig s f1 (j+k)=R):=hid (by rw[<-HQ.out f1,d5 HC.out]);clear hq;go_wp2_with fail;refine(J.out _ M).mono ?_;rintro e w3⟨rfl,D⟩;have J3:=hid ((D.block w.heap.size j0).trans J1.out);go_wp2_with fail;go_roundg (s.size-(j+k))
      case measure=>omega
      case rel=>exact⟨j+k,f1,by omega,gA _,J3.out,aD M D,N.out,by omega⟩
    ·by_cases ga:r=65279
     ·by_cases gv:0<j
      ·have HC:=hid (show(r=0\/(r=65533/\k=1)\/(r=65279/\0<j))by omega);(have ej:decide ((0:Int)<(j:Int))=true:=by rw[gK];omega);subst ga;have N:Hid (R=some j):=hid (by rw[<-HQ.out f1,gF HC.out]);clear hq;go_wp2_with fail;refine(J.out _ M).mono ?_;rintro e w3⟨rfl,D⟩;go_wp2_with fail;go_ret;exact⟨by rw[N.out];rfl,aD M D⟩
      ·have HC:=hid (show ¬ (r=0\/(r=65533/\k=1)\/(r=65279/\0<j))by omega);(have ej:decide ((0:Int)<(j:Int))=false:=by rw[gJ];omega);subst ga;have N:Hid (ig s f1 (j+k)=R):=hid (by rw[<-HQ.out f1,d5 HC.out]);clear hq;go_wp2_with fail;refine(J.out _ M).mono ?_;rintro e w3⟨rfl,D⟩;have J3:=hid ((D.block w.heap.size j0).trans J1.out);go_wp2_with fail;go_roundg (s.size-(j+k))
       case measure=>omega
       case rel=>exact⟨j+k,f1,by omega,gA _,J3.out,aD M D,N.out,by omega⟩
     ·have HC:=hid (show ¬ (r=0\/(r=65533/\k=1)\/(r=65279/\0<j))by omega);(have e0:((r:Int)==0)=false:=by rw[gC];omega);(have gl:((r:Int)==65533)=false:=by rw[gC];omega);(have gm:((r:Int)==65279)=false:=by rw[gC];omega);clear gh gb ga;have N:Hid (ig s f1 (j+k)=R):=hid (by rw[<-HQ.out f1,d5 HC.out]);clear hq;go_wp2_with fail;refine(J.out _ M).mono ?_;rintro e w3⟨rfl,D⟩;have J3:=hid ((D.block w.heap.size j0).trans J1.out);go_wp2_with fail;go_roundg (s.size-(j+k))
      case measure=>omega
      case rel=>exact⟨j+k,f1,by omega,gA _,J3.out,aD M D,N.out,by omega⟩
  ·have gr:=fun ty=>qF (P:=prog) wr w.heap.size s j ty ge.out I;have N:Hid (R=none):=hid (by
    rw[<-gd.out];cases f with
    |zero=>rfl
    |succ f=>rw[ig,d5 I])
   go_wp2_with fail;go_ret;exact⟨by rw[N.out];rfl,U⟩
theorem Ge(w:World):
  Calls prog 71 #[.slice none 0 0] w fun e w'=>e=.returned (.int .i64 (-1))/\Below w w w':=by have I:=run_convert_nil_bytes (P:=prog) w 27 9 5 0 underlying27 underlying5 underlying9;have hit:=qE w ⟨#[]⟩ 0;have D:=fun ty=>qF (P:=prog) (w.iter ⟨#[]⟩ 0) w.heap.size ⟨#[]⟩ 0 ty hit (by decide);have J:=hid (show Below w w (w.iter ⟨#[]⟩ 0)from(gG w.heap.size w).alloc (gA _) _);clear hit;(go_enter func71,ntmps71);go_wp2_with fail;refine wp_loop_rounds 1 ?_;rw[qK];go_wp2_with fail;go_ret;exact⟨rfl,J.out⟩
theorem BR{w w':World}{g o:Nat}{s:ByteArray}(h:Lib.Bytes w g o s)(D:g<w.heap.size)(hb:Below w w w'):Lib.Bytes w' g o s:=
 fun i hi=>(kY (a:=⟨g,o+i,none⟩) (hb.block g D)).trans (h i hi)
def fT(w:World)(A:Option Addr)(c:Nat)(s:ByteArray):Prop:=
 (A=none/\c=0/\s=⟨#[]⟩)\/∃g o,A=some ⟨g,o,none⟩/\s.size<=c/\g<w.heap.size/\Lib.Bytes w g o s
theorem fT.below{w w':World}{A:Option Addr}{c:Nat}{s:ByteArray}(h:fT w A c s)(hb:Below w w w'):fT w' A c s:=by
 rcases h with h|⟨g,o,M,J,D,I⟩
 ·exact .inl h
 ·exact .inr ⟨g,o,M,J,kH D hb.size,BR I D hb⟩
theorem fT.wrong{w:World}{A:Option Addr}{c:Nat}{s:ByteArray}(h:fT w A c s)(I:lF w)(D:s.size<=1000000000):
  Calls prog 71 #[.slice A s.size c] w fun e w'=>e=.returned (.int .i64 (sL (lq s)))/\Below w w w':=by
 rcases h with⟨rfl,rfl,rfl⟩|⟨g,o,rfl,N,M,J⟩
 ·exact Ge w
 ·exact Gc g o c s w I J M N D
theorem fT.conv{w:World}{A:Option Addr}{c:Nat}{s:ByteArray}(h:fT w A c s):
  (convert 27 9 (.slice A s.size c)).run prog w=.ok (.string s) w:=by
 rcases h with⟨rfl,rfl,rfl⟩|⟨g,o,rfl,J,I,D⟩
 ·exact run_convert_nil_bytes (P:=prog) w 27 9 5 0 underlying27 underlying5 underlying9
 ·exact run_convert_whole (P:=prog) w 27 5 9 underlying27 underlying5 underlying9 g o s D c
theorem OK(v:Value)(w:World):(Instr.typeAssert (.iface 83 v) 20 83 true).run prog w=.ok (.tuple #[v,.bool true]) w:=by kernel_rfl
attribute [local go_sem] OK
theorem DG(B P Q R:Nat)(p:Nat)(vP vQ vR:Value)(w:World)(hP:an w P 63 #[vP])(hQ:an w Q 3 #[vQ])(hR:an w R 29 #[vR])(gg:B<=P)(ge:B<=Q)(gd:B<=R)(O:P≠Q)(N:P≠R)(M:Q≠R):
  CallsD prog 72 #[P,Q,R] (.panicking [{ v:=.iface 83 (.agg #[(p:Int)]),recovered:=false }]) w
   fun e u' w'=>e=.returned (.tuple #[])/\u'=.panicking [{ v:=.iface 83 (.agg #[(p:Int)]),recovered:=true }] /\
    an w' P 63 #[.pointer none]/\an w' Q 3 #[(p:Int)]/\an w' R 29 #[.int .i64 3]/\Below B w w':=by refine callsD_of_wpS func72 rfl fun c₀ cs hu=>?_;apply wpS_seq;apply vp;simp[wpOpsS,go_sem,recoverD,hu,ntmps72,Exit.thenS];apply wpS_seq;apply vp;simp[wpOpsS,go_sem,Exit.thenS];refine wpS_cond (t:=true) (by simp[Act.eval,Array.replicate]) ?_;simp only[kW];refine wpS_of_wp ?_;change Code.wp _ _ _ { tmps:=#[.pointer (some ⟨P,0,none⟩),.pointer (some ⟨Q,0,none⟩),.pointer (some ⟨R,0,none⟩),.iface 83 (.agg #[(p:Int)]),undef,undef,.iface 83 (.agg #[(p:Int)]),.iface 83 (.agg #[(p:Int)]),.bool true,undef,undef,undef,undef,undef,undef,undef,undef,undef,undef],defers:=[] } _;have J:=hP.alloc (.cells #[(p:Int)] 83);have I:=hQ.alloc (.cells #[(p:Int)] 83);have D:=hR.alloc (.cells #[(p:Int)] 83);have U:=an.new w 83 #[(p:Int)];have gh:Below B w (w.alloc (.cells #[(p:Int)] 83)):=(gG _ _).alloc (by have:=hP.lt;omega) _;have gk:=hP.lt;have gj:=hQ.lt;have gi:=hR.lt;(go_upto_region 5 with fail);generalize w.alloc (.cells #[(p:Int)] 83)=w1 at *;(have gn:P≠w.heap.size:=by omega);(have gm:Q≠w.heap.size:=by omega);(have gl:R≠w.heap.size:=by omega);generalize w.heap.size=T at *;have x0:=a7 J;have x1:=a7 I;have x2:=a7 D;have x3:=a7 U;have f0:=J.frozen 0;have f1:=I.frozen 0;have f2:=D.frozen 0;go_region;all_goals have gb:an ((((w1.setCell ⟨P,0,none⟩ (.pointer none)).setCell ⟨Q,0,none⟩ (.int .i64 (p:Int))).setCell ⟨R,0,none⟩ (.int .i64 3))).drew P 63 #[.pointer none]:=(((show an (w1.setCell ⟨P,0,none⟩ (.pointer none)) P 63 #[.pointer none]by simpa using J.set_ 0 (.pointer none)).far (p:=⟨Q,0,none⟩) O (.int .i64 (p:Int))).far (p:=⟨R,0,none⟩) N (.int .i64 3)).drew;have ga:an ((((w1.setCell ⟨P,0,none⟩ (.pointer none)).setCell ⟨Q,0,none⟩ (.int .i64 (p:Int))).setCell ⟨R,0,none⟩ (.int .i64 3))).drew Q 3 #[(p:Int)]:=((show an ((w1.setCell ⟨P,0,none⟩ (.pointer none)).setCell ⟨Q,0,none⟩ (.int .i64 (p:Int))) Q 3 #[(p:Int)]by simpa using(I.far (p:=⟨P,0,none⟩) O.symm (.pointer none)).set_ 0 (.int .i64 (p:Int))).far (p:=⟨R,0,none⟩) M (.int .i64 3)).drew;have h:an ((((w1.setCell ⟨P,0,none⟩ (.pointer none)).setCell ⟨Q,0,none⟩ (.int .i64 (p:Int))).setCell ⟨R,0,none⟩ (.int .i64 3))).drew R 29 #[.int .i64 3]:=(show an (((w1.setCell ⟨P,0,none⟩ (.pointer none)).setCell ⟨Q,0,none⟩ (.int .i64 (p:Int))).setCell ⟨R,0,none⟩ (.int .i64 3)) R 29 #[.int .i64 3]by simpa using((D.far (p:=⟨P,0,none⟩) N.symm (.pointer none)).far (p:=⟨Q,0,none⟩) M.symm (.int .i64 (p:Int))).set_ 0 (.int .i64 3)).drew;refine⟨rfl,_,rfl,.tuple #[],?_,rfl,rfl,gb,ga,h,(((gh.setCell (p:=⟨P,0,none⟩) gg (.pointer none)).setCell (p:=⟨Q,0,none⟩) ge (.int .i64 (p:Int))).setCell (p:=⟨R,0,none⟩) gd (.int .i64 3)).drew⟩;simp[results,results72,go_sem]
end
end Go.Proofs.YtiebcdeafofgdaaGreatDoor
