/-
  Parts of the proof: Oall Otagged Mwords Oixr MtagA MtagC MtagD MtagE. By an AI agent.
-/
import Derived.Test.YtcoiialmdncpfaaGreatDoorJ19
import Derived.Test.YtcoiialmdncpfaaGreatDoorJ20
import Derived.Test.YtcoiialmdncpfaaGreatDoorJ08
import Derived.Test.YtcoiialmdncpfaaGreatDoorJ11
import Derived.Test.YtcoiialmdncpfaaGreatDoorJ12
import Derived.Deep.LoopGhost
import Derived.BigQuiet
import Derived.WalkMore
import Derived.ScopeJumps
import Derived.Laws.EntriesVeiled
import Derived.Defers
import Derived.Recover
open Go.Proofs.Tryz
set_option maxRecDepth 100000
set_option maxHeartbeats 8000000
namespace Go.Proofs.YtcoiialmdncpfaaGreatDoor
section
open Go.RowKit Go.Lib Go.Proofs Go.Shelf
attribute [local go_sem ↓] Go.wp_at_zero Go.wp_at_succ
def eb(s:ByteArray):Nat->Nat->List Nat
 |0,_=>[]
 |f+1,i=>if i<s.size then(Utf8.decode s i).1::eb s f (i+(Utf8.decode s i).2)else[]
theorem sW(s:ByteArray):∀(f f' i:Nat),s.size-i<=f->s.size-i<=f'->eb s f i=eb s f' i
 |0,0,_,_,_=>rfl
 |0,f'+1,i,h,_=>by rw[eb,eb,gE (by omega)]
 |f+1,0,i,_,h=>by rw[eb,eb,gE (by omega)]
 |f+1,f'+1,i,h,h'=>by
  rw[eb,eb];split
  ·have:=(oL s i (by assumption)).1;rw[sW s f f' _ (by omega) (by omega)]
  ·rfl
theorem uJ(s:ByteArray)(f i:Nat)(h:¬ i<s.size):eb s f i=[]:=by
 cases f with
 |zero=>rfl
 |succ f=>rw[eb,gE h]
theorem sX(s:ByteArray)(i:Nat)(h:i<s.size):eb s (s.size-i) i=(Utf8.decode s i).1::eb s (s.size-(i+(Utf8.decode s i).2)) (i+(Utf8.decode s i).2):=by obtain⟨f,D⟩:∃f,s.size-i=f+1:=⟨s.size-i-1,by omega⟩;have:=(oL s i h).1;rw[D,eb,gL h,sW s f _ _ (by omega) (gA _)]
def nh(p:Nat->Bool)(s:ByteArray):Bool:=(eb s s.size 0).all p && !s.toList.isEmpty
def iJ(r:Nat):Bool:=decide (48<=r)&&decide (r<=57)
def fR(r:Nat):Bool:=(decide (97<=r)&&decide (r<=122))||(decide (65<=r)&&decide (r<=90))||iJ r||r==95||r==45||r==46
theorem uK(r:Nat)(w:World):Calls prog 32 #[.int .i32 r] w fun e w'=>e=.returned (.bool (iJ r))/\w'=w:=by
 unfold iJ;(have I:decide ((48:Int)<=(r:Int))=decide (48<=r):=by congr 1;simp;omega);(have D:decide ((r:Int)<=(57:Int))=decide (r<=57):=by congr 1;simp;omega);generalize decide (48<=r)=b1 at *;generalize decide (r<=57)=b2 at *;cases b1<;>
 ·(go_enter func32,ntmps32);go_wp2_with fail;go_ret;exact⟨rfl,rfl⟩
theorem FD(r:Nat)(w:World):Calls prog 31 #[.int .i32 r] w fun e w'=>e=.returned (.bool (fR r))/\w'=w:=by
 have J:=hid (uK r);have I:=hid (show fR r=((decide (97<=r)&&decide (r<=122))||(decide (65<=r)&&decide (r<=90))||iJ r||r==95||r==45||r==46)from rfl);(have e1:decide ((97:Int)<=(r:Int))=decide (97<=r):=by congr 1;simp;omega);(have y:decide ((r:Int)<=(122:Int))=decide (r<=122):=by congr 1;simp;omega);(have x:decide ((65:Int)<=(r:Int))=decide (65<=r):=by congr 1;simp;omega);(have q:decide ((r:Int)<=(90:Int))=decide (r<=90):=by congr 1;simp;omega);(have h:((r:Int)==(95:Int))=(r==95):=by rw[jW];simp;omega);(have O:((r:Int)==(45:Int))=(r==45):=by rw[jW];simp;omega);(have M:((r:Int)==(46:Int))=(r==46):=by rw[jW];simp;omega);have D:(decide (97<=r)=true/\decide (r<=122)=true)\/(decide (97<=r)=true/\decide (r<=122)=false/\decide (65<=r)=true/\decide (r<=90)=false/\iJ r=false/\(r==95)=false/\(r==45)=false/\(r==46)=false) \/
   (decide (97<=r)=false/\decide (65<=r)=true/\decide (r<=90)=true)\/(decide (97<=r)=false/\decide (65<=r)=true/\decide (r<=90)=false/\iJ r=false/\(r==95)=true) \/
   (decide (97<=r)=false/\decide (65<=r)=true/\decide (r<=90)=false/\iJ r=false/\(r==95)=false/\(r==45)=false/\(r==46)=false) \/
   (decide (97<=r)=false/\decide (65<=r)=false/\iJ r=true)\/(decide (97<=r)=false/\decide (65<=r)=false/\iJ r=false/\(r==95)=false/\(r==45)=true) \/
   (decide (97<=r)=false/\decide (65<=r)=false/\iJ r=false/\(r==95)=false/\(r==45)=false):=by simp only[iJ,jG,gH,gR,Bool.and_eq_false_iff,kI,gD];omega
 generalize fR r=z at *;generalize decide (97<=r)=b1 at *;generalize decide (r<=122)=b2 at *;generalize decide (65<=r)=b3 at *;generalize decide (r<=90)=b4 at *;generalize iJ r=b0 at *;generalize(r==95)=b5 at *;generalize(r==45)=b6 at *;generalize(r==46)=b7 at *;rcases D with⟨rfl,rfl⟩|⟨rfl,rfl,rfl,rfl,rfl,rfl,rfl,rfl⟩|⟨rfl,rfl,rfl⟩|⟨rfl,rfl,rfl,rfl,rfl⟩|⟨rfl,rfl,rfl,rfl,rfl,rfl,rfl⟩|⟨rfl,rfl,rfl⟩|⟨rfl,rfl,rfl,rfl,rfl⟩|⟨rfl,rfl,rfl,rfl,rfl⟩<;>
 ·(go_enter func31,ntmps31);go_wp2_with (go_at_call 32;refine(J.out w).mono ?_;rintro e w'⟨rfl,rfl⟩);go_ret;exact⟨by rw[I.out];first|rfl|simp,rfl⟩
theorem FE(a:Array Value)(w:World):(callFunc 31 a).run prog w=.ok (.enter 31 a) w:=by kernel_rfl
theorem DI(a:Array Value)(w:World):(callFunc 32 a).run prog w=.ok (.enter 32 a) w:=by kernel_rfl
theorem ES(g:Nat)(p:Nat->Bool)(hp:∀(r:Nat)(w:World),Calls prog g #[.int .i32 r] w fun e w'=>e=.returned (.bool (p r))/\w'=w)(ent:∀a w,(callFunc g a).run prog w=.ok (.enter g a) w)(s:ByteArray)(w:World):
  Calls prog 33 #[.string s,.func (.func g) #[] #[]] w fun e w'=>e=.returned (.bool (nh p s))/\Below w w w':=by
 have M:=qJ w s 0;have gb:Below w w (w.iter s 0):=(gC w.heap.size w).alloc (gA _) _;have HP:=hid hp;have HA:=hid (show nh p s=((eb s (s.size-0) 0).all p && !s.toList.isEmpty)from rfl);generalize nh p s=z at *;clear hp;(go_enter func33,ntmps33);go_wp2_with fail;go_loopg [6] s.size (fun g _ wr=>∃i:Nat,i<=s.size/\s.size-i<=g/\wr.heap[w.heap.size]? = some (.stringIter s i)/\Below w w wr/\z=((eb s (s.size-i) i).all p && !s.toList.isEmpty))
 case atStart=>exact⟨0,gT _,by omega,M,gb,HA.out⟩
 case round=>
  clear M gb HA;obtain⟨i,hi,hg,hit,hb,I⟩:=hrel;have q:=hid hit;have HB:=hid hb;have x:=hid I;have gd:w.heap.size<wr.heap.size:=(Array.getElem?_eq_some_iff.1 hit).1;clear hit hb I;by_cases J:i<s.size
  ·have hw:=oL s i J;have D:=fun ty=>qV (P:=prog) wr w.heap.size s i ty q.out J;have HS:=hid (sX s i J);generalize hd:Utf8.decode s i=d at hw D HS;obtain⟨r,k⟩:=d;clear hd;simp only at hw D;have j1:=hid (qZ wr w.heap.size s i (i+k) q.out);have j2:=hid (bx (s:=s) (k:=i+k) HB.out (gA w.heap.size));generalize wr.iterAt w.heap.size s (i+k)=W1 at D j1 j2;have HQ:=hid (HP.out r W1);have y:∀b,p r=b->p r=b:=fun _ h=>h;cases hb:p r with
   |true=>
    rw[hb]at HQ;have I:=x.out;rw[HS.out]at I;simp only[List.all_cons,hb,vD]at I;have O:=hid I;clear I hb y x;go_wp2_with fail;refine HQ.out.mono ?_;rintro e w'⟨rfl,rfl⟩;go_wp2_with fail;go_roundg (s.size-(i+k))
    case measure=>omega
    case rel=>exact⟨i+k,hw.2,gA _,j1.out,j2.out,O.out⟩
   |false=>rw[hb]at HQ;have I:=x.out;rw[HS.out]at I;simp only[List.all_cons,hb,vw]at I;subst I;clear hb y x;go_wp2_with fail;refine HQ.out.mono ?_;rintro e w'⟨rfl,rfl⟩;go_wp2_with fail;go_ret;exact⟨rfl,j2.out⟩
  ·(have ga:i=s.size:=by omega);have D:=fun ty=>qL (P:=prog) wr w.heap.size s i ty q.out J;have I:=x.out;rw[uJ s _ i J]at I;simp only[List.all_nil,vD]at I;have O:=hid I;clear I x ga;go_wp2_with fail;go_ret;exact⟨by rw[O.out];rfl,HB.out⟩
def nP(r:Nat):Bool:=(decide (97<=r)&&decide (r<=122))||(decide (65<=r)&&decide (r<=90))||(decide (48<=r)&&decide (r<=57))||r==95||r==46
theorem B8(r:Nat)(w:World):Calls prog 175 #[.int .i32 r] w fun e w'=>e=.returned (.bool (nP r))/\w'=w:=by
 have I:=hid (show nP r=((decide (97<=r)&&decide (r<=122))||(decide (65<=r)&&decide (r<=90))||(decide (48<=r)&&decide (r<=57))||r==95||r==46)from rfl);(have e1:decide ((97:Int)<=(r:Int))=decide (97<=r):=by congr 1;simp;omega);(have y:decide ((r:Int)<=(122:Int))=decide (r<=122):=by congr 1;simp;omega);(have x:decide ((65:Int)<=(r:Int))=decide (65<=r):=by congr 1;simp;omega);(have q:decide ((r:Int)<=(90:Int))=decide (r<=90):=by congr 1;simp;omega);(have h:decide ((48:Int)<=(r:Int))=decide (48<=r):=by congr 1;simp;omega);(have O:decide ((r:Int)<=(57:Int))=decide (r<=57):=by congr 1;simp;omega);(have M:((r:Int)==(95:Int))=(r==95):=by rw[jW];simp;omega);(have J:((r:Int)==(46:Int))=(r==46):=by rw[jW];simp;omega);have D:(decide (97<=r)=true/\decide (r<=122)=true) \/
   (decide (97<=r)=true/\decide (r<=122)=false/\decide (65<=r)=true/\decide (r<=90)=false/\decide (48<=r)=true/\decide (r<=57)=false/\(r==95)=false/\(r==46)=false) \/
   (decide (97<=r)=false/\decide (65<=r)=true/\decide (r<=90)=true) \/
   (decide (97<=r)=false/\decide (65<=r)=true/\decide (r<=90)=false/\decide (48<=r)=true/\decide (r<=57)=false/\(r==95)=true) \/
   (decide (97<=r)=false/\decide (65<=r)=true/\decide (r<=90)=false/\decide (48<=r)=true/\decide (r<=57)=false/\(r==95)=false/\(r==46)=false) \/
   (decide (97<=r)=false/\decide (65<=r)=false/\decide (48<=r)=true/\decide (r<=57)=true) \/
   (decide (97<=r)=false/\decide (65<=r)=false/\decide (48<=r)=true/\decide (r<=57)=false/\(r==95)=false/\(r==46)=false) \/
   (decide (97<=r)=false/\decide (65<=r)=false/\decide (48<=r)=false/\(r==95)=false):=by simp only[jG,gH,kI,gD];omega
 generalize nP r=z at *;generalize decide (97<=r)=b1 at *;generalize decide (r<=122)=b2 at *;generalize decide (65<=r)=b3 at *;generalize decide (r<=90)=b4 at *;generalize decide (48<=r)=b5 at *;generalize decide (r<=57)=b6 at *;generalize(r==95)=b7 at *;generalize(r==46)=b8 at *;rcases D with⟨rfl,rfl⟩|⟨rfl,rfl,rfl,rfl,rfl,rfl,rfl,rfl⟩|⟨rfl,rfl,rfl⟩|⟨rfl,rfl,rfl,rfl,rfl,rfl⟩|⟨rfl,rfl,rfl,rfl,rfl,rfl,rfl⟩|⟨rfl,rfl,rfl,rfl⟩|⟨rfl,rfl,rfl,rfl,rfl,rfl⟩|⟨rfl,rfl,rfl,rfl⟩<;>
 ·(go_enter func175,ntmps175);go_wp2_with fail;go_ret;exact⟨by rw[I.out];first|rfl|simp,rfl⟩
theorem DJ(s:ByteArray)(w:World):
  Calls prog 129 #[s] w fun e w'=>e=.returned (.bool (nh nP s))/\Below w w w':=by
 have M:=qJ w s 0;have gb:Below w w (w.iter s 0):=(gC w.heap.size w).alloc (gA _) _;have HP:=hid B8;have HA:=hid (show nh nP s=((eb s (s.size-0) 0).all nP && !s.toList.isEmpty)from rfl);generalize nh nP s=z at *;(go_enter func129,ntmps129);go_wp2_with fail;go_loopg [4] s.size (fun g _ wr=>∃i:Nat,i<=s.size/\s.size-i<=g/\wr.heap[w.heap.size]? = some (.stringIter s i)/\Below w w wr/\z=((eb s (s.size-i) i).all nP && !s.toList.isEmpty))
 case atStart=>exact⟨0,gT _,by omega,M,gb,HA.out⟩
 case round=>
  clear M gb HA;obtain⟨i,hi,hg,hit,hb,I⟩:=hrel;have q:=hid hit;have HB:=hid hb;have x:=hid I;have gd:w.heap.size<wr.heap.size:=(Array.getElem?_eq_some_iff.1 hit).1;clear hit hb I;by_cases J:i<s.size
  ·have hw:=oL s i J;have D:=fun ty=>qV (P:=prog) wr w.heap.size s i ty q.out J;have HS:=hid (sX s i J);generalize hd:Utf8.decode s i=d at hw D HS;obtain⟨r,k⟩:=d;clear hd;simp only at hw D;have j1:=hid (qZ wr w.heap.size s i (i+k) q.out);have j2:=hid (bx (s:=s) (k:=i+k) HB.out (gA w.heap.size));generalize wr.iterAt w.heap.size s (i+k)=W1 at D j1 j2;have HQ:=hid (HP.out r W1);have y:∀b,nP r=b->nP r=b:=fun _ h=>h;cases hb:nP r with
   |true=>
    rw[hb]at HQ;have I:=x.out;rw[HS.out]at I;simp only[List.all_cons,hb,vD]at I;have O:=hid I;clear I hb y x;go_wp2_with fail;refine HQ.out.mono ?_;rintro e w'⟨rfl,rfl⟩;go_wp2_with fail;go_roundg (s.size-(i+k))
    case measure=>omega
    case rel=>exact⟨i+k,hw.2,gA _,j1.out,j2.out,O.out⟩
   |false=>rw[hb]at HQ;have I:=x.out;rw[HS.out]at I;simp only[List.all_cons,hb,vw]at I;subst I;clear hb y x;go_wp2_with fail;refine HQ.out.mono ?_;rintro e w'⟨rfl,rfl⟩;go_wp2_with fail;go_ret;exact⟨rfl,j2.out⟩
  ·(have ga:i=s.size:=by omega);have D:=fun ty=>qL (P:=prog) wr w.heap.size s i ty q.out J;have I:=x.out;rw[uJ s _ i J]at I;simp only[List.all_nil,vD]at I;have O:=hid I;clear I x ga;go_wp2_with fail;go_ret;exact⟨by rw[O.out];rfl,HB.out⟩
def wV(c:Nat):Bool:=c==32||(c==9||c==13)
def ep(s:ByteArray):List ByteArray:=Lib.goFieldsP wV ⟨(Lib.cut s.data.toList [47,47]).1.toArray⟩
theorem EF(c:Nat)(w:World):Calls prog 57 #[.int .i32 (c:Int)] w fun e w'=>e=.returned (.bool (wV c))/\w'=w:=by(have J:((c:Int)==32)=(c==32):=by rw[jW,kI,kI];omega);(have I:((c:Int)==9)=(c==9):=by rw[jW,kI,kI];omega);(have D:((c:Int)==13)=(c==13):=by rw[jW,kI,kI];omega);unfold wV;cases e1:(c==32)<;>cases e2:(c==9)<;>cases e3:(c==13);all_goals rw[e1]at J;rw[e2]at I;rw[e3]at D;(go_enter func57,ntmps57);go_wp2_with fail;go_ret;exact⟨rfl,rfl⟩
theorem EG(a:Array Value)(w:World):(callFunc 57 a).run prog w=.ok (.enter 57 a) w:=by kernel_rfl
def NL(w:World)(A:Nat)(l:List ByteArray):Prop:=A<w.heap.size/\∀i(h:i<l.length),w.cell? ⟨A,i,none⟩=some (.string l[i])
theorem GJ(s:ByteArray)(w:World)(hs:s.size<=65536)(hT:bQ w):Calls prog 30 #[s] w fun e w'=>∃A,e=.returned (.slice (some ⟨A,0,none⟩) (ep s).length (ep s).length)/\w.heap.size<=A/\NL w' A (ep s)/\Below w w w':=by
 have y:=hid (B7 s ⟨#[47,47]⟩ w (by omega) hT);have I:(⟨(Lib.cut s.data.toList [47,47]).1.toArray⟩:ByteArray).size<=4294967296:=by
  have h1:(Lib.cut s.data.toList [47,47]).1.length<=s.data.toList.length:=by
   unfold Lib.cut;split
   ·simp only[qO];omega
   ·exact gA _
  have h2:s.data.toList.length=s.size:=rfl;show(Lib.cut s.data.toList [47,47]).1.toArray.size<=_;simp only[jR];omega
 have q:=hid (fun W=>B6 57 #[] (fun a w=>EG a w) wV ⟨(Lib.cut s.data.toList [47,47]).1.toArray⟩ W I fun W' x _ _=>(EF x W').mono fun _ _ h=>⟨h.1,by rw[h.2];exact gC _ _⟩);unfold ep;generalize(⟨(Lib.cut s.data.toList [47,47]).1.toArray⟩:ByteArray)=cs at *;clear hT I;(go_enter func30,ntmps30);go_wp2_with fail;refine y.out.mono ?_;rintro e w1⟨rfl,J⟩;have M:=hid (q.out w1);clear y q;go_wp2_with fail;refine M.out.mono ?_;rintro e w2⟨A,rfl,hA,D,O⟩;have z:=hid (show NL w2 A (Lib.goFieldsP wV cs)from⟨(qA D A rfl).2,fun i hi=>by rw[qG D i (by omega),xc,gO hi];rfl⟩);clear D M;go_wp2_with fail;go_ret;have:=J.size;exact⟨A,rfl,by omega,z.out,aE J O⟩
end
section
open Go.RowKit Go.Lib Go.Proofs
attribute [local go_sem ↓] Go.wp_at_zero Go.wp_at_succ
theorem ml{P:Program}{Q:Exit->Act->World->Prop}{a:Act}{w:World}{c rest:Code}(l:Nat)(I:findLabel c l=some rest)
  (first:c.wp P (Exit.jump l (fun a w=>rest.wp P (Exit.noGoto Q) a w) Q) a w):(Code.scope c).wp P Q a w:=
 wp_scope_jumps l _ (fun _ _=>0) I first fun a w h=>Code.wp_mono (fun e a w(D:Exit.noGoto Q e a w)=>by
  cases e with
  |goto l=>exact False.elim D
  |_=>exact D) h
theorem rp{l:Nat}{J:Act->World->Prop}{Q:Exit->Act->World->Prop}{a:Act}{w:World}:Exit.jump l J Q .ret a w=Q .ret a w:=rfl
theorem fx{l:Nat}{J:Act->World->Prop}{Q:Exit->Act->World->Prop}{a:Act}{w:World}(h:J a w):Exit.jump l J Q (.goto l) a w:=⟨rfl,h⟩
theorem On(w:World):Calls prog 152 #[.int .i64 5] w fun e w'=>e=.returned (.int .i64 2)/\w'=w:=by(go_enter func152,ntmps152);go_wp2_with fail;go_ret;exact⟨rfl,rfl⟩
theorem Iu(w:World):Calls prog 152 #[.int .i64 6] w fun e w'=>e=.returned (.int .i64 2)/\w'=w:=by(go_enter func152,ntmps152);go_wp2_with fail;go_ret;exact⟨rfl,rfl⟩
def dr:ByteArray:=⟨#[32,9,13,239,187,191]⟩
def pk(r:Nat):Bool:=r==32||(r==9||(r==13||r==65279))
def Mv(r:Nat)(w:World)(e:Ending)(w':World):Prop:=∃k:Int,e=.returned (.int .i64 k)/\decide (0<=k)=pk r/\Below w w w'
theorem MW(w:World):Calls prog 177 #[.string dr,.int .i32 65533] w (Mv 65533 w):=by
 have J:=qJ w dr 0;have O:Below w w (w.iter dr 0):=(gC w.heap.size w).alloc (gA _) _;have HR:Hid (∀w',Below w w w'->Mv 65533 w (.returned (.int .i64 (-1))) w'):=hid fun w' hb=>⟨-1,rfl,by decide,hb⟩;(go_enter func177,ntmps177);go_wp2_with fail;go_loopg [5,6] 6 (fun g _ _ wr=>∃i:Nat,(i=0\/i=1\/i=2\/i=3\/i=6)/\6-i<=g/\wr.heap[w.heap.size]? = some (.stringIter dr i)/\Below w w wr)
 case atStart=>exact⟨0,.inl rfl,by omega,J,O⟩
 case round=>
  clear J O;obtain⟨i,h,hg,hit,hb⟩:=hrel;have I:=hid hit;have x:=hid hb;have ga:w.heap.size<wr.heap.size:=(Array.getElem?_eq_some_iff.1 hit).1;clear hit hb;by_cases q:i=6
  ·subst q;have D:=fun ty=>qL (P:=prog) wr w.heap.size dr 6 ty I.out (by decide);clear h;go_wp2_with fail;go_ret;exact HR.out _ x.out
  ·obtain⟨k,r,hd,h1,h2⟩:∃k r,Utf8.decode dr i=(r,k)/\(i+k=0\/i+k=1\/i+k=2\/i+k=3\/i+k=6)/\i<i+k/\((r:Int)==65533)=false:=by
    rcases h with rfl|rfl|rfl|rfl|rfl
    ·exact⟨1,32,by decide +kernel,by decide,by decide,by decide⟩
    ·exact⟨1,9,by decide +kernel,by decide,by decide,by decide⟩
    ·exact⟨1,13,by decide +kernel,by decide,by decide,by decide⟩
    ·exact⟨3,65279,by decide +kernel,by decide,by decide,by decide⟩
    ·exact absurd rfl q
   (have M:i<dr.size:=by rcases h with rfl|rfl|rfl|rfl|rfl<;>first|decide|exact absurd rfl q);have D:=fun ty=>qV (P:=prog) wr w.heap.size dr i ty I.out M;rw[hd]at D;obtain⟨h3,h4⟩:=h2;have z:=hid (qZ wr w.heap.size dr i (i+k) I.out);have y:=hid (bx (s:=dr) (k:=i+k) x.out (gA w.heap.size));simp only at D;generalize wr.iterAt w.heap.size dr (i+k)=W1 at D z y;clear hd M h I x;go_wp2_with fail;go_roundg (6-(i+k))
   case measure=>omega
   case rel=>exact⟨i+k,h1,gA _,z.out,y.out⟩
theorem MX(r:Nat)(h:r<128)(w:World):Calls prog 177 #[.string dr,.int .i32 (r:Int)] w (Mv r w):=by(have M:(0:Int)<=(r:Int):=by omega);(have J:(r:Int)<128:=by omega);have I:IntKind.u8.wrap (r:Int)=(r:Int):=IntWalk.u8_in _ (by omega);have H:=hid (fun W=>cF dr (r:Int) W);have D:Hid (decide (0<=Lib.indexByte dr.data.toList (UInt8.ofNat ((r:Int)).toNat))=pk r):=hid (by(have:∀r:Fin 128,decide (0<=Lib.indexByte dr.data.toList (UInt8.ofNat ((r.val:Int)).toNat))=pk r.val:=by decide +kernel);exact this ⟨r,h⟩);generalize Lib.indexByte dr.data.toList (UInt8.ofNat ((r:Int)).toNat)=z at *;(go_enter func177,ntmps177);go_wp2_with fail;refine(H.out _).mono ?_;rintro e w1⟨rfl,rfl⟩;go_wp2_with fail;go_ret;exact⟨_,rfl,D.out,gC _ _⟩
theorem dc{Q:Exit->Act->World->Prop}{a:Act}{w:World}:Exit.noGoto Q .normal a w=Q .normal a w:=rfl
theorem uL{r k:Nat}(h:k<=r)(D:r≠65279)(I:128<=k:=by decide):pk r=false:=by unfold pk;simp only[Bool.or_eq_false_iff,gD];omega
theorem sy{r:Int}(h:Utf8.valid r=true):Lib.validRune r=true:=by unfold Utf8.valid at h;unfold Lib.validRune;simp only[vI,gR,jG]at h |-;omega
theorem MY(n:Nat)(h:n<256):(UInt8.ofNat n).toNat=n:=by rw[UInt8.toNat_ofNat'];omega
theorem AM{r:Nat}(D:Utf8.valid (r:Int)=true):(if Utf8.valid (r:Int)=true then(r:Int).toNat else Utf8.runeError)=r:=by rw[gL D];rfl
theorem Pa(r:Nat)(J:128<=r)(I:r<2048)(D:Utf8.valid (r:Int)=true):∃(R:ByteArray)(b0 b1:Nat),(∀W,(convert 21 9 (.int .i32 (r:Int))).run prog W=.ok (.string R) W)/\R.size=2 /\
  (∀W,(Instr.index 9 (.string R) (.int .i64 0)).run prog W=.ok (.int .u8 (b0:Int)) W)/\(∀W,(Instr.index 9 (.string R) (.int .i64 1)).run prog W=.ok (.int .u8 (b1:Int)) W)/\(192<=b0/\b0<224)/\128<=b1/\b1<192/\True:=by
 refine⟨⟨#[UInt8.ofNat (192+r/64),UInt8.ofNat (128+r%64)]⟩,192+r/64,128+r%64,fun W=>?_,rfl,fun W=>?_,fun W=>?_,by omega,by omega,by omega,trivial⟩
 ·rw[show(⟨#[UInt8.ofNat (192+r/64),UInt8.ofNat (128+r%64)]⟩:ByteArray)=Utf8.encode (r:Int)by unfold Utf8.encode;simp only[AM D];rw[gE (by omega),gL (by omega)]];kernel_rfl
 ·have h:=ce ⟨#[UInt8.ofNat (192+r/64),UInt8.ofNat (128+r%64)]⟩ 0 (show 0<2 by omega) W;rw[show ai ⟨#[UInt8.ofNat (192+r/64),UInt8.ofNat (128+r%64)]⟩ 0=(UInt8.ofNat (192+r/64)).toNat from rfl,MY _ (by omega)]at h;exact h
 ·have h:=ce ⟨#[UInt8.ofNat (192+r/64),UInt8.ofNat (128+r%64)]⟩ 1 (show 1<2 by omega) W;rw[show ai ⟨#[UInt8.ofNat (192+r/64),UInt8.ofNat (128+r%64)]⟩ 1=(UInt8.ofNat (128+r%64)).toNat from rfl,MY _ (by omega)]at h;exact h
theorem Pb(r:Nat)(J:2048<=r)(I:r<65536)(D:Utf8.valid (r:Int)=true):∃(R:ByteArray)(b0 b1 b2:Nat),(∀W,(convert 21 9 (.int .i32 (r:Int))).run prog W=.ok (.string R) W)/\R.size=3 /\
  (∀W,(Instr.index 9 (.string R) (.int .i64 0)).run prog W=.ok (.int .u8 (b0:Int)) W)/\(∀W,(Instr.index 9 (.string R) (.int .i64 1)).run prog W=.ok (.int .u8 (b1:Int)) W)/\(∀W,(Instr.index 9 (.string R) (.int .i64 2)).run prog W=.ok (.int .u8 (b2:Int)) W)/\224<=b0/\128<=b1/\b1<192/\128<=b2/\b2<192/\r=(b0-224)*4096+(b1-128)*64+(b2-128):=by
 refine⟨⟨#[UInt8.ofNat (224+r/4096),UInt8.ofNat (128+r/64%64),UInt8.ofNat (128+r%64)]⟩,224+r/4096,128+r/64%64,128+r%64,fun W=>?_,rfl,fun W=>?_,fun W=>?_,fun W=>?_,by omega,by omega,by omega,by omega,by omega,by omega⟩
 ·rw[show(⟨#[UInt8.ofNat (224+r/4096),UInt8.ofNat (128+r/64%64),UInt8.ofNat (128+r%64)]⟩:ByteArray)=Utf8.encode (r:Int)by unfold Utf8.encode;simp only[AM D];rw[gE (by omega),gE (by omega),gL (by omega)]];kernel_rfl
 ·have h:=ce ⟨#[UInt8.ofNat (224+r/4096),UInt8.ofNat (128+r/64%64),UInt8.ofNat (128+r%64)]⟩ 0 (show 0<3 by omega) W;rw[show ai ⟨#[UInt8.ofNat (224+r/4096),UInt8.ofNat (128+r/64%64),UInt8.ofNat (128+r%64)]⟩ 0=(UInt8.ofNat (224+r/4096)).toNat from rfl,MY _ (by omega)]at h;exact h
 ·have h:=ce ⟨#[UInt8.ofNat (224+r/4096),UInt8.ofNat (128+r/64%64),UInt8.ofNat (128+r%64)]⟩ 1 (show 1<3 by omega) W;rw[show ai ⟨#[UInt8.ofNat (224+r/4096),UInt8.ofNat (128+r/64%64),UInt8.ofNat (128+r%64)]⟩ 1=(UInt8.ofNat (128+r/64%64)).toNat from rfl,MY _ (by omega)]at h;exact h
 ·have h:=ce ⟨#[UInt8.ofNat (224+r/4096),UInt8.ofNat (128+r/64%64),UInt8.ofNat (128+r%64)]⟩ 2 (show 2<3 by omega) W;rw[show ai ⟨#[UInt8.ofNat (224+r/4096),UInt8.ofNat (128+r/64%64),UInt8.ofNat (128+r%64)]⟩ 2=(UInt8.ofNat (128+r%64)).toNat from rfl,MY _ (by omega)]at h;exact h
theorem Pc(r:Nat)(J:65536<=r)(I:r<1114112)(D:Utf8.valid (r:Int)=true):∃(R:ByteArray)(b0 b1 b2 b3:Nat),(∀W,(convert 21 9 (.int .i32 (r:Int))).run prog W=.ok (.string R) W)/\R.size=4 /\
  (∀W,(Instr.index 9 (.string R) (.int .i64 0)).run prog W=.ok (.int .u8 (b0:Int)) W)/\(∀W,(Instr.index 9 (.string R) (.int .i64 1)).run prog W=.ok (.int .u8 (b1:Int)) W)/\(∀W,(Instr.index 9 (.string R) (.int .i64 2)).run prog W=.ok (.int .u8 (b2:Int)) W)/\(∀W,(Instr.index 9 (.string R) (.int .i64 3)).run prog W=.ok (.int .u8 (b3:Int)) W)/\240<=b0/\128<=b1/\b1<192/\128<=b2/\b2<192/\128<=b3/\b3<192/\True:=by
 refine⟨⟨#[UInt8.ofNat (240+r/262144),UInt8.ofNat (128+r/4096%64),UInt8.ofNat (128+r/64%64),UInt8.ofNat (128+r%64)]⟩,240+r/262144,128+r/4096%64,128+r/64%64,128+r%64,fun W=>?_,rfl,fun W=>?_,fun W=>?_,fun W=>?_,fun W=>?_,by omega,by omega,by omega,by omega,by omega,by omega,by omega,trivial⟩
 ·rw[show(⟨#[UInt8.ofNat (240+r/262144),UInt8.ofNat (128+r/4096%64),UInt8.ofNat (128+r/64%64),UInt8.ofNat (128+r%64)]⟩:ByteArray)=Utf8.encode (r:Int)by unfold Utf8.encode;simp only[AM D];rw[gE (by omega),gE (by omega),gE (by omega)]];kernel_rfl
 ·have h:=ce ⟨#[UInt8.ofNat (240+r/262144),UInt8.ofNat (128+r/4096%64),UInt8.ofNat (128+r/64%64),UInt8.ofNat (128+r%64)]⟩ 0 (show 0<4 by omega) W;rw[show ai ⟨#[UInt8.ofNat (240+r/262144),UInt8.ofNat (128+r/4096%64),UInt8.ofNat (128+r/64%64),UInt8.ofNat (128+r%64)]⟩ 0=(UInt8.ofNat (240+r/262144)).toNat from rfl,MY _ (by omega)]at h;exact h
 ·have h:=ce ⟨#[UInt8.ofNat (240+r/262144),UInt8.ofNat (128+r/4096%64),UInt8.ofNat (128+r/64%64),UInt8.ofNat (128+r%64)]⟩ 1 (show 1<4 by omega) W;rw[show ai ⟨#[UInt8.ofNat (240+r/262144),UInt8.ofNat (128+r/4096%64),UInt8.ofNat (128+r/64%64),UInt8.ofNat (128+r%64)]⟩ 1=(UInt8.ofNat (128+r/4096%64)).toNat from rfl,MY _ (by omega)]at h;exact h
 ·have h:=ce ⟨#[UInt8.ofNat (240+r/262144),UInt8.ofNat (128+r/4096%64),UInt8.ofNat (128+r/64%64),UInt8.ofNat (128+r%64)]⟩ 2 (show 2<4 by omega) W;rw[show ai ⟨#[UInt8.ofNat (240+r/262144),UInt8.ofNat (128+r/4096%64),UInt8.ofNat (128+r/64%64),UInt8.ofNat (128+r%64)]⟩ 2=(UInt8.ofNat (128+r/64%64)).toNat from rfl,MY _ (by omega)]at h;exact h
 ·have h:=ce ⟨#[UInt8.ofNat (240+r/262144),UInt8.ofNat (128+r/4096%64),UInt8.ofNat (128+r/64%64),UInt8.ofNat (128+r%64)]⟩ 3 (show 3<4 by omega) W;rw[show ai ⟨#[UInt8.ofNat (240+r/262144),UInt8.ofNat (128+r/4096%64),UInt8.ofNat (128+r/64%64),UInt8.ofNat (128+r%64)]⟩ 3=(UInt8.ofNat (128+r%64)).toNat from rfl,MY _ (by omega)]at h;exact h
theorem MZ(r:Nat)(z:128<=r)(h2:r<2048)(I:Utf8.valid (r:Int)=true)(w:World):Calls prog 177 #[.string dr,.int .i32 (r:Int)] w (Mv r w):=by
 have d0:decide ((0:Int)<=(r:Int))=true:=jK (by omega);have d1:decide ((r:Int)<128)=false:=gV (by omega);(have d2:((r:Int)==65533)=false:=by rw[gD];omega);have HV:=hid (fun W=>dJ (r:Int) W);rw[sy I]at HV;obtain⟨R,b0,D,x,ga,x0,x1,g0,p1,q1,gs⟩:=Pa r z h2 I;have gb:dr.size=6:=rfl;(have y1:∀W,(Instr.index 9 (.string dr) (.int .i64 1)).run prog W=.ok (.int .u8 9) W:=fun W=>by kernel_rfl);(have y3:∀W,(Instr.index 9 (.string dr) (.int .i64 3)).run prog W=.ok (.int .u8 239) W:=fun W=>by kernel_rfl);(have y4:∀W,(Instr.index 9 (.string dr) (.int .i64 4)).run prog W=.ok (.int .u8 187) W:=fun W=>by kernel_rfl);(have y5:∀W,(Instr.index 9 (.string dr) (.int .i64 5)).run prog W=.ok (.int .u8 191) W:=fun W=>by kernel_rfl);(have z2:∀W,(Instr.slice 9 (.string dr) (some (.int .i64 2)) none none).run prog W=.ok (.string ⟨#[13,239,187,191]⟩) W:=fun W=>by kernel_rfl);(have z6:∀W,(Instr.slice 9 (.string dr) (some (.int .i64 6)) none none).run prog W=.ok (.string ⟨#[]⟩) W:=fun W=>by kernel_rfl);(obtain⟨v0,v1,v2,v3,v4,v5,v6⟩:IntKind.i64.wrap 0=0/\IntKind.i64.wrap 1=1/\IntKind.i64.wrap 2=2/\IntKind.i64.wrap 3=3/\IntKind.i64.wrap 4=4/\IntKind.i64.wrap 5=5/\IntKind.i64.wrap 6=6:=by decide);(have n0:((9:Int) != (D:Int))=true:=by rw[kE];omega);(have m3:((239:Int) != (b0:Int))=true:=by rw[kE];omega);(have m4:((187:Int) != (b0:Int))=true:=by rw[kE];omega);have M:=hid (fun W=>cF ⟨#[13,239,187,191]⟩ (D:Int) W);have J:Hid (Lib.indexByte (⟨#[13,239,187,191]⟩:BA).data.toList (UInt8.ofNat ((D:Int)).toNat)=if D=187 then 2 else if D=191 then 3 else -1):=hid (by(have:∀b:Fin 64,Lib.indexByte (⟨#[13,239,187,191]⟩:BA).data.toList (UInt8.ofNat (((b.val+128:Nat):Int)).toNat)=if b.val+128=187 then 2 else if b.val+128=191 then 3 else -1:=by decide +kernel);have h:=this ⟨D-128,by omega⟩;simp only[show D-128+128=D by omega]at h;exact h);have H6:=hid (fun W=>cF ⟨#[]⟩ 187 W);have O:Hid (r≠65279->∀w',Below w w w'->Mv r w (.returned (.int .i64 (-1))) w'):=hid fun q w' hb=>⟨-1,rfl,by rw[uL z q];rfl,hb⟩;replace O:=hid (O.out (by omega));clear I z h2 gs;(go_enter func177,ntmps177);go_wp2_with fail;refine(HV.out _).mono ?_;rintro e w1⟨rfl,rfl⟩;clear HV;go_wp2_with fail;go_step3;go_wp2_with fail;refine kG 4 ?_;rw[jH];go_wp2_with fail;refine ml 0 (by rfl) ?_;have y:∀n,Below w1 w1 (w1.drewN n):=fun n=>az (gC _ _) n;rcases(by omega:D=187\/D=191\/(D≠187/\D≠191))with rfl|rfl|⟨e1,e2⟩
 rotate_left 2
 ·rw[J.out,gE e1,gE e2]at M;clear J e1 e2;go_wp2_with fail;go_quiet (fail);go_wp2_with fail;go_quiet ((go_at_call 184;exact(M.out _).mono fun _ _ h=>⟨h.1,_,h.2.symm⟩));go_wp2_with fail;rw[rp];go_ret;exact O.out _ (y _)
 ·rw[J.out,gL rfl]at M;clear J;go_wp2_with fail;go_quiet (fail);go_wp2_with fail;go_quiet ((go_at_call 184;exact(M.out _).mono fun _ _ h=>⟨h.1,_,h.2.symm⟩));go_wp2_with fail;refine kG 4 ?_;rw[jH];go_wp2_with fail;go_quiet (fail);go_wp2_with fail;go_step3;refine fx (Q:=fun _ _ _=>True) ?_;go_wp2_with fail;refine(On _).mono ?_;rintro e w2⟨rfl,rfl⟩;go_wp2_with fail;rw[dc];(try simp only[Exit.inBlock,Exit.then]);rw[jH];go_wp2_with fail;go_step3;go_wp2_with fail;go_quiet (fail);go_wp2_with fail;go_quiet ((go_at_call 184;exact(H6.out _).mono fun _ _ h=>⟨h.1,_,h.2.symm⟩));go_wp2_with fail;rw[Exit.noGoto_ret];go_ret;exact O.out _ (y _)
 ·rw[J.out,gE (by decide),gL rfl]at M;clear J;go_wp2_with fail;go_quiet (fail);go_wp2_with fail;go_quiet ((go_at_call 184;exact(M.out _).mono fun _ _ h=>⟨h.1,_,h.2.symm⟩));go_wp2_with fail;refine kG 4 ?_;rw[jH];go_wp2_with fail;go_quiet (fail);go_wp2_with fail;go_step3;refine fx (Q:=fun _ _ _=>True) ?_;go_wp2_with fail;refine(Iu _).mono ?_;rintro e w2⟨rfl,rfl⟩;go_wp2_with fail;rw[dc];(try simp only[Exit.inBlock,Exit.then]);rw[jH];go_wp2_with fail;go_ret;exact O.out _ (y _)
theorem FF(r:Nat)(h1:2048<=r)(h2:r<65536)(J:Utf8.valid (r:Int)=true)(hn:r≠65533)(w:World):Calls prog 177 #[.string dr,.int .i32 (r:Int)] w (Mv r w):=by
 have d0:decide ((0:Int)<=(r:Int))=true:=jK (by omega);have d1:decide ((r:Int)<128)=false:=gV (by omega);(have d2:((r:Int)==65533)=false:=by rw[gD];omega);have HV:=hid (fun W=>dJ (r:Int) W);rw[sy J]at HV;obtain⟨R,b0,b1,I,ga,gb,x0,x1,x2,g0,p1,q1,p2,q2,gs⟩:=Pb r h1 h2 J;have gd:dr.size=6:=rfl;(have y2:∀W,(Instr.index 9 (.string dr) (.int .i64 2)).run prog W=.ok (.int .u8 13) W:=fun W=>by kernel_rfl);(have y3:∀W,(Instr.index 9 (.string dr) (.int .i64 3)).run prog W=.ok (.int .u8 239) W:=fun W=>by kernel_rfl);(have y4:∀W,(Instr.index 9 (.string dr) (.int .i64 4)).run prog W=.ok (.int .u8 187) W:=fun W=>by kernel_rfl);(have y5:∀W,(Instr.index 9 (.string dr) (.int .i64 5)).run prog W=.ok (.int .u8 191) W:=fun W=>by kernel_rfl);(have z3:∀W,(Instr.slice 9 (.string dr) (some (.int .i64 3)) none none).run prog W=.ok (.string ⟨#[239,187,191]⟩) W:=fun W=>by kernel_rfl);(have z6:∀W,(Instr.slice 9 (.string dr) (some (.int .i64 6)) none none).run prog W=.ok (.string ⟨#[]⟩) W:=fun W=>by kernel_rfl);(obtain⟨v0,v1,v2,v3,v4,v5,v6⟩:IntKind.i64.wrap 0=0/\IntKind.i64.wrap 1=1/\IntKind.i64.wrap 2=2/\IntKind.i64.wrap 3=3/\IntKind.i64.wrap 4=4/\IntKind.i64.wrap 5=5/\IntKind.i64.wrap 6=6:=by decide);(have n0:((13:Int) != (I:Int))=true:=by rw[kE];omega);(have m3:((239:Int) != (b1:Int))=true:=by rw[kE];omega);have M:=hid (fun W=>cF ⟨#[239,187,191]⟩ (I:Int) W);have O:Hid (Lib.indexByte (⟨#[239,187,191]⟩:BA).data.toList (UInt8.ofNat ((I:Int)).toNat)=if I=187 then 1 else if I=191 then 2 else -1):=hid (by(have:∀b:Fin 64,Lib.indexByte (⟨#[239,187,191]⟩:BA).data.toList (UInt8.ofNat (((b.val+128:Nat):Int)).toNat)=if b.val+128=187 then 1 else if b.val+128=191 then 2 else -1:=by decide +kernel);have h:=this ⟨I-128,by omega⟩;simp only[show I-128+128=I by omega]at h;exact h);have H6:=hid (fun W=>cF ⟨#[]⟩ 187 W);have D:Hid (r≠65279->∀w',Below w w w'->Mv r w (.returned (.int .i64 (-1))) w'):=hid fun z w' hb=>⟨-1,rfl,by rw[uL h1 z];rfl,hb⟩;have q:=hid gs;clear J hn h1 h2 gs;(go_enter func177,ntmps177);go_wp2_with fail;refine(HV.out _).mono ?_;rintro e w1⟨rfl,rfl⟩;clear HV;go_wp2_with fail;go_step3;go_wp2_with fail;refine kG 4 ?_;rw[jH];go_wp2_with fail;refine ml 0 (by rfl) ?_;have y:∀n,Below w1 w1 (w1.drewN n):=fun n=>az (gC _ _) n;rcases(by omega:I=187\/I=191\/(I≠187/\I≠191))with rfl|rfl|⟨e1,e2⟩
 rotate_left 2
 ·rw[O.out,gE e1,gE e2]at M;replace D:=hid (D.out (by have:=q.out;omega));clear O e1 e2;go_wp2_with fail;go_quiet (fail);go_wp2_with fail;go_quiet ((go_at_call 184;exact(M.out _).mono fun _ _ h=>⟨h.1,_,h.2.symm⟩));go_wp2_with fail;rw[rp];go_ret;exact D.out _ (y _)
 ·rw[O.out,gL rfl]at M;replace D:=hid (D.out (by have:=q.out;omega));clear O;go_wp2_with fail;go_quiet (fail);go_wp2_with fail;go_quiet ((go_at_call 184;exact(M.out _).mono fun _ _ h=>⟨h.1,_,h.2.symm⟩));go_wp2_with fail;refine kG 4 ?_;rw[jH];go_wp2_with fail;go_quiet (fail);go_wp2_with fail;go_step3;refine fx (Q:=fun _ _ _=>True) ?_;go_wp2_with fail;refine(On _).mono ?_;rintro e w2⟨rfl,rfl⟩;go_wp2_with fail;rw[dc];(try simp only[Exit.inBlock,Exit.then]);rw[jH];go_wp2_with fail;go_step3;go_wp2_with fail;go_quiet (fail);go_wp2_with fail;go_quiet ((go_at_call 184;exact(H6.out _).mono fun _ _ h=>⟨h.1,_,h.2.symm⟩));go_wp2_with fail;rw[Exit.noGoto_ret];go_ret;exact D.out _ (y _)
 ·rw[O.out,gE (by decide),gL rfl]at M;clear O;by_cases f1:b1=187
  rotate_left
  ·(have m4:((187:Int) != (b1:Int))=true:=by rw[kE];omega);replace D:=hid (D.out (by have:=q.out;omega));clear f1;go_wp2_with fail;go_quiet (fail);go_wp2_with fail;go_quiet ((go_at_call 184;exact(M.out _).mono fun _ _ h=>⟨h.1,_,h.2.symm⟩));go_wp2_with fail;refine kG 4 ?_;rw[jH];go_wp2_with fail;go_quiet (fail);go_wp2_with fail;go_step3;refine fx (Q:=fun _ _ _=>True) ?_;go_wp2_with fail;refine(Iu _).mono ?_;rintro e w2⟨rfl,rfl⟩;go_wp2_with fail;rw[dc];(try simp only[Exit.inBlock,Exit.then]);rw[jH];go_wp2_with fail;go_ret;exact D.out _ (y _)
  ·subst f1;by_cases f0:b0=239
   rotate_left
   ·(have m5:((239:Int) != (b0:Int))=true:=by rw[kE];omega);replace D:=hid (D.out (by have:=q.out;omega));clear f0;go_wp2_with fail;go_quiet (fail);go_wp2_with fail;go_quiet ((go_at_call 184;exact(M.out _).mono fun _ _ h=>⟨h.1,_,h.2.symm⟩));go_wp2_with fail;refine kG 4 ?_;rw[jH];go_wp2_with fail;go_quiet (fail);go_wp2_with fail;rw[jH];go_wp2_with fail;go_quiet (fail);go_wp2_with fail;go_step3;refine fx (Q:=fun _ _ _=>True) ?_;go_wp2_with fail;refine(Iu _).mono ?_;rintro e w2⟨rfl,rfl⟩;go_wp2_with fail;rw[dc];(try simp only[Exit.inBlock,Exit.then]);rw[jH];go_wp2_with fail;go_ret;exact D.out _ (y _)
   ·subst f0;(have x:r=65279:=by have:=q.out;omega);have HE:Hid (pk r=true):=hid (by rw[x];rfl);clear x D q;go_wp2_with fail;go_quiet (fail);go_wp2_with fail;go_quiet ((go_at_call 184;exact(M.out _).mono fun _ _ h=>⟨h.1,_,h.2.symm⟩));go_wp2_with fail;refine kG 4 ?_;rw[jH];go_wp2_with fail;go_quiet (fail);go_wp2_with fail;rw[jH];go_wp2_with fail;go_quiet (fail);go_wp2_with fail;rw[jH];go_wp2_with fail;rw[rp];go_ret;exact⟨3,rfl,by rw[HE.out];rfl,y _⟩
theorem Iv(r:Nat)(z:65536<=r)(h2:r<1114112)(I:Utf8.valid (r:Int)=true)(w:World):Calls prog 177 #[.string dr,.int .i32 (r:Int)] w (Mv r w):=by
 have d0:decide ((0:Int)<=(r:Int))=true:=jK (by omega);have d1:decide ((r:Int)<128)=false:=gV (by omega);(have d2:((r:Int)==65533)=false:=by rw[gD];omega);have HV:=hid (fun W=>dJ (r:Int) W);rw[sy I]at HV;obtain⟨R,b0,b1,b2,D,y,ga,x0,x1,x2,x3,g0,p1,q1,p2,q2,p3,q3,gs⟩:=Pc r z h2 I;have gb:dr.size=6:=rfl;(have y3:∀W,(Instr.index 9 (.string dr) (.int .i64 3)).run prog W=.ok (.int .u8 239) W:=fun W=>by kernel_rfl);(have y4:∀W,(Instr.index 9 (.string dr) (.int .i64 4)).run prog W=.ok (.int .u8 187) W:=fun W=>by kernel_rfl);(have y5:∀W,(Instr.index 9 (.string dr) (.int .i64 5)).run prog W=.ok (.int .u8 191) W:=fun W=>by kernel_rfl);(have z4:∀W,(Instr.slice 9 (.string dr) (some (.int .i64 4)) none none).run prog W=.ok (.string ⟨#[187,191]⟩) W:=fun W=>by kernel_rfl);(have z6:∀W,(Instr.slice 9 (.string dr) (some (.int .i64 6)) none none).run prog W=.ok (.string ⟨#[]⟩) W:=fun W=>by kernel_rfl);(obtain⟨v0,v1,v2,v3,v4,v5,v6⟩:IntKind.i64.wrap 0=0/\IntKind.i64.wrap 1=1/\IntKind.i64.wrap 2=2/\IntKind.i64.wrap 3=3/\IntKind.i64.wrap 4=4/\IntKind.i64.wrap 5=5/\IntKind.i64.wrap 6=6:=by decide);(have n0:((239:Int) != (D:Int))=true:=by rw[kE];omega);(have m3:((239:Int) != (b2:Int))=true:=by rw[kE];omega);have J:=hid (fun W=>cF ⟨#[187,191]⟩ (D:Int) W);have M:Hid (Lib.indexByte (⟨#[187,191]⟩:BA).data.toList (UInt8.ofNat ((D:Int)).toNat)=if D=187 then 0 else if D=191 then 1 else -1):=hid (by(have:∀b:Fin 64,Lib.indexByte (⟨#[187,191]⟩:BA).data.toList (UInt8.ofNat (((b.val+128:Nat):Int)).toNat)=if b.val+128=187 then 0 else if b.val+128=191 then 1 else -1:=by decide +kernel);have h:=this ⟨D-128,by omega⟩;simp only[show D-128+128=D by omega]at h;exact h);have H6:=hid (fun W=>cF ⟨#[]⟩ 187 W);have O:Hid (r≠65279->∀w',Below w w w'->Mv r w (.returned (.int .i64 (-1))) w'):=hid fun x w' hb=>⟨-1,rfl,by rw[uL z x];rfl,hb⟩;replace O:=hid (O.out (by omega));clear I z h2 gs;(go_enter func177,ntmps177);go_wp2_with fail;refine(HV.out _).mono ?_;rintro e w1⟨rfl,rfl⟩;clear HV;go_wp2_with fail;go_step3;go_wp2_with fail;refine kG 4 ?_;rw[jH];go_wp2_with fail;refine ml 0 (by rfl) ?_;have q:∀n,Below w1 w1 (w1.drewN n):=fun n=>az (gC _ _) n;rcases(by omega:D=187\/D=191\/(D≠187/\D≠191))with rfl|rfl|⟨e1,e2⟩
 rotate_left 2
 ·rw[M.out,gE e1,gE e2]at J;clear M e1 e2;go_wp2_with fail;go_quiet (fail);go_wp2_with fail;go_quiet ((go_at_call 184;exact(J.out _).mono fun _ _ h=>⟨h.1,_,h.2.symm⟩));go_wp2_with fail;rw[rp];go_ret;exact O.out _ (q _)
 ·rw[M.out,gL rfl]at J;clear M;go_wp2_with fail;go_quiet (fail);go_wp2_with fail;go_quiet ((go_at_call 184;exact(J.out _).mono fun _ _ h=>⟨h.1,_,h.2.symm⟩));go_wp2_with fail;refine kG 4 ?_;rw[jH];go_wp2_with fail;go_quiet (fail);go_wp2_with fail;go_step3;refine fx (Q:=fun _ _ _=>True) ?_;go_wp2_with fail;refine(On _).mono ?_;rintro e w2⟨rfl,rfl⟩;go_wp2_with fail;rw[dc];(try simp only[Exit.inBlock,Exit.then]);rw[jH];go_wp2_with fail;go_step3;go_wp2_with fail;go_quiet (fail);go_wp2_with fail;go_quiet ((go_at_call 184;exact(H6.out _).mono fun _ _ h=>⟨h.1,_,h.2.symm⟩));go_wp2_with fail;rw[Exit.noGoto_ret];go_ret;exact O.out _ (q _)
 ·rw[M.out,gE (by decide),gL rfl]at J;clear M;by_cases f1:b2=187
  rotate_left
  ·(have m4:((187:Int) != (b2:Int))=true:=by rw[kE];omega);clear f1;go_wp2_with fail;go_quiet (fail);go_wp2_with fail;go_quiet ((go_at_call 184;exact(J.out _).mono fun _ _ h=>⟨h.1,_,h.2.symm⟩));go_wp2_with fail;refine kG 4 ?_;rw[jH];go_wp2_with fail;go_quiet (fail);go_wp2_with fail;go_step3;refine fx (Q:=fun _ _ _=>True) ?_;go_wp2_with fail;refine(Iu _).mono ?_;rintro e w2⟨rfl,rfl⟩;go_wp2_with fail;rw[dc];(try simp only[Exit.inBlock,Exit.then]);rw[jH];go_wp2_with fail;go_ret;exact O.out _ (q _)
  ·subst f1;(have m5:((239:Int) != (b1:Int))=true:=by rw[kE];omega);go_wp2_with fail;go_quiet (fail);go_wp2_with fail;go_quiet ((go_at_call 184;exact(J.out _).mono fun _ _ h=>⟨h.1,_,h.2.symm⟩));go_wp2_with fail;refine kG 4 ?_;rw[jH];go_wp2_with fail;go_quiet (fail);go_wp2_with fail;rw[jH];go_wp2_with fail;go_quiet (fail);go_wp2_with fail;go_step3;refine fx (Q:=fun _ _ _=>True) ?_;go_wp2_with fail;refine(Iu _).mono ?_;rintro e w2⟨rfl,rfl⟩;go_wp2_with fail;rw[dc];(try simp only[Exit.inBlock,Exit.then]);rw[jH];go_wp2_with fail;go_ret;exact O.out _ (q _)
theorem Kx.own{Cx:Nat->Prop}{w W:World}(h:Kx Cx w W){p:Addr}(hb:w.heap.size<=p.block)(v:Value):Kx Cx w (W.setCell p v):=
 ⟨h.bel.setCell (gT _) v,fun k hk hc=>(gF W p v k (by omega)).trans (h.same k hk hc)⟩
theorem AQ(w:World):Calls prog 72 #[.bool true] w fun e w'=>e=.returned (.tuple #[])/\w'=w:=by(go_enter func72,ntmps72);go_wp2_with fail;go_end0;exact⟨rfl,rfl⟩
theorem Iz(X:Nat)(s sign t r:ByteArray)(b:Bool)(w:World)(q:aa w X 138 #[s])(z:(⟨(Lib.trimLeftS s.data.toList [32,9]).toArray⟩:ByteArray)=t)(hb:Lib.hasPrefix t.data.toList sign.data.toList=b)(hr:(⟨(Lib.trimPrefix t.data.toList sign.data.toList).toArray⟩:ByteArray)=r):
  Calls prog 71 #[X,sign] w fun e w'=>e=.returned (.bool b)/\Kx (fun k=>k=X) w w'/\aa w' X 138 #[.string (if b then r else t)]:=by
 have H1:=hid (fun w=>FH s ⟨#[32,9]⟩ w (by decide) (fun j b h=>by
  have J:=List.mem_of_getElem? h;have J:b∈[(32:UInt8),9]:=J;rcases List.mem_cons.1 J with rfl|J
  ·decide
  ·rcases List.mem_cons.1 J with rfl|J
   ·decide
   ·cases J))
 rw[show(⟨#[32,9]⟩:BA).data.toList=[32,9]from rfl,z]at H1;have H2:=hid (fun w=>rq t sign w);rw[hb,hr]at H2;have s0:=aw q;have M:=q.lt;have y:=hid q;clear q z hb hr;(go_enter func71,ntmps71);go_wp2_with fail;refine(H1.out _).mono ?_;rintro e w1⟨rfl,D⟩;have g0:=aw (y.out.below D M);have gf:=(y.out.below D M).frozen 0;(have I:aa (w1.setCell ⟨X,0,none⟩ (.string t)) X 138 #[t]:=by simpa using(y.out.below D M).set_ 0 (.string t));have O:=(Kx.below D).trans (Kx.setCell (Cx:=fun k=>k=X) w1 rfl 0 (.string t));have s1:=aw I;clear s0 D;go_wp2_with fail;clear g0 gf;generalize w1.setCell ⟨X,0,none⟩ (.string t)=w2 at *;refine(H2.out _).mono ?_;rintro e w3⟨rfl,rfl⟩;cases b with
 |false=>go_wp2_with fail;go_ret;exact⟨rfl,O,I⟩
 |true=>have gf:=I.frozen 0;(have x:aa (w3.setCell ⟨X,0,none⟩ (.string r)) X 138 #[r]:=by simpa using I.set_ 0 (.string r));go_wp2_with fail;go_ret;exact⟨rfl,O.trans (Kx.setCell (Cx:=fun k=>k=X) _ rfl 0 (.string r)),x⟩
abbrev Dr(w:World)(X:Nat)(s:ByteArray):Prop:=aa w X 138 #[s]
theorem DK{w W:World}{X b:Nat}{t:TypeId}{s:ByteArray}{x y z:Value}(hb:w.heap.size<=b)(D:b≠X)(J:aa W b t #[x,y,z])(M:Dr W X s)(I:Kx (fun k=>k=X) w W)(a c d:Value):
  aa (((W.setCell ⟨b,0,none⟩ a).setCell ⟨b,1,none⟩ c).setCell ⟨b,2,none⟩ d) b t #[a,c,d]/\Dr (((W.setCell ⟨b,0,none⟩ a).setCell ⟨b,1,none⟩ c).setCell ⟨b,2,none⟩ d) X s /\
   Kx (fun k=>k=X) w (((W.setCell ⟨b,0,none⟩ a).setCell ⟨b,1,none⟩ c).setCell ⟨b,2,none⟩ d):=
 ⟨by simpa using((J.set_ 0 a).set_ 1 c).set_ 2 d,
  ((M.far (p:=⟨b,0,none⟩) D.symm a).far (p:=⟨b,1,none⟩) D.symm c).far (p:=⟨b,2,none⟩) D.symm d,
  ((I.own (p:=⟨b,0,none⟩) hb a).own (p:=⟨b,1,none⟩) hb c).own (p:=⟨b,2,none⟩) hb d⟩
theorem DO(p q:Addr)(w:World):
  CallsD prog 69 #[.pointer (some p),.pointer (some q)] .returning w fun e u' w'=>e=.returned (.tuple #[])/\u'=.returning/\w'=w:=by
 refine vM func69 rfl fun c₀ cs D=>?_;apply vW;apply qY;simp[wpOpsS,go_sem,recoverD,D,ntmps69,Exit.thenS];apply vW;apply qY;simp[wpOpsS,go_sem,Exit.thenS];refine wpS_cond (t:=false) (by simp[Act.eval,Array.replicate]) ?_;simp only[gX,kK];refine xq (wp_skip ?_);cases c₀
 simp_all[bodyPostS,results,results69]
theorem AR{W:World}{b:Nat}{t:TypeId}{x y z:Value}(D:aa W b t #[x,y,z])(a c d:Value):
 aa (((W.setCell ⟨b,0,none⟩ a).setCell ⟨b,1,none⟩ c).setCell ⟨b,2,none⟩ d) b t #[a,c,d]:=by simpa using((D.set_ 0 a).set_ 1 c).set_ 2 d
theorem IC{W:World}{b k:Nat}{t:TypeId}{cs:Array Value}(D:aa W k t cs)(h:k≠b)(a c d:Value):
  aa (((W.setCell ⟨b,0,none⟩ a).setCell ⟨b,1,none⟩ c).setCell ⟨b,2,none⟩ d) k t cs:=
 ((D.far (p:=⟨b,0,none⟩) h a).far (p:=⟨b,1,none⟩) h c).far (p:=⟨b,2,none⟩) h d
theorem AS{n:Nat}{w W:World}(h:Below n w W){b:Nat}(hb:n<=b)(a c d:Value):Below n w (((W.setCell ⟨b,0,none⟩ a).setCell ⟨b,1,none⟩ c).setCell ⟨b,2,none⟩ d):=
 ((h.setCell (p:=⟨b,0,none⟩) hb a).setCell (p:=⟨b,1,none⟩) hb c).setCell (p:=⟨b,2,none⟩) hb d
end
end Go.Proofs.YtcoiialmdncpfaaGreatDoor
