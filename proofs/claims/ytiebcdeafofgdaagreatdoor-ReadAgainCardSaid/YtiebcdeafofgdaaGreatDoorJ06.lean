/-
  Parts of the proof: Task Tplain Tsig Tdecl Tparam Tvar Ttail Texpr. By an AI agent.
-/
import Derived.Test.YtiebcdeafofgdaaGreatDoorJ05
import Derived.Laws.EntriesVeiled
import Derived.Laws.Slices
set_option maxRecDepth 100000
set_option maxHeartbeats 8000000
namespace Go.Proofs.YtiebcdeafofgdaaGreatDoor
section
open Go.RowKit Go.Lib Go.Proofs
attribute [local go_sem ↓] Go.wp_at_zero Go.wp_at_succ
theorem gK:type_of% @decide_eq_false_iff_not:=@decide_eq_false_iff_not
theorem kU:type_of% @bne_iff_ne:=@bne_iff_ne
theorem qr:type_of% @Bool.not_eq_true':=@Bool.not_eq_true'
theorem dz(s:ByteArray)(l:List UInt8):decide (s=⟨l.toArray⟩)=(s.toList==l):=by rw[<-dF,qJ ⟨l.toArray⟩]
theorem eZ(s sub:ByteArray)(w:World)(hT:dk w)(hs:s.size<=2000000000):
  Calls Tryz.prog 78 #[.string s,.string sub] w fun e w'=>e=.returned (.bool (Lib.contains s.data.toList sub.data.toList))/\w=w':=by obtain⟨m,D⟩:=hT;exact(Any.strings_Contains Tryz.laysContains s sub m w (by omega) D).mono fun _ _ h=>⟨h.1,h.2.symm⟩
theorem OU(s sep:ByteArray)(w:World)(hT:dk w)(hs:s.size<=2000000000):
  Calls Tryz.prog 215 #[.string s,.string sep] w fun e w'=>e=.returned (.tuple #[.string ⟨(Lib.cut s.data.toList sep.data.toList).1.toArray⟩,.string ⟨(Lib.cut s.data.toList sep.data.toList).2.1.toArray⟩,.bool (Lib.cut s.data.toList sep.data.toList).2.2])/\Below w w w':=by obtain⟨m,D⟩:=hT;exact(Any.strings_Cut Tryz.laysCut s sep m w (by omega) D).mono fun _ _ h=>⟨h.1,by obtain⟨n,e⟩:=h.2;subst e;exact bC (gG _ _) n⟩
theorem tR(s:ByteArray)(w:World):Calls Tryz.prog 118 #[.string s] w fun e w'=>e=.returned (.bool (aO s))/\Below w w w':=by
 (have hE:aO s=(decide ((s.size:Int)<=100)&&mi s):=by unfold aO;congr 1;rw[qf];omega);rw[hE];have I:=hid (CZ s w);generalize mi s=q at *;clear hE;cases J:decide ((s.size:Int)<=100);all_goals
  (go_enter Tryz.func118,Tryz.ntmps118);(go_wp2_with fail);try
   refine I.out.mono ?_
   rintro e w1⟨rfl,D⟩
   go_wp2_with fail
  go_ret;exact⟨rfl,by first|assumption|exact gG _ _⟩
theorem BS(s:ByteArray)(w:World):Calls Tryz.prog 212 #[.string s] w fun e w'=>e=.returned (.bool (ev s))/\Below w w w':=by(have hE:ev s=(aO s && !(s.toList==[95])):=by unfold ev;rw[<-dz s [95],<-decide_not]);rw[hE];have I:=hid (tR s w);generalize aO s=q at *;clear hE;cases q<;>cases J:(s.toList==[95]);all_goals(go_enter Tryz.func212,Tryz.ntmps212);(go_wp2_with fail);refine I.out.mono ?_;rintro e w1⟨rfl,D⟩;(go_wp2_with fail);go_ret;exact⟨rfl,D⟩
theorem n7{P:ByteArray->Bool}{f:FuncId}(D:∀a w,(callFunc f a).run Tryz.prog w=.ok (.enter f a) w)(w0:World)
  (h:∀(s:ByteArray)(w:World),Below w0 w0 w->s.size<=1000000000->Calls Tryz.prog f #[.string s] w fun e w'=>e=.returned (.bool (P s))/\Below w w w'):CX P ⟨f,#[]⟩ w0:=
 ⟨D,fun w s hb hs=>h s w hb hs⟩
theorem mS(w0:World):CX aO ⟨118,#[]⟩ w0:=n7 (fun a w=>by kernel_rfl) w0 fun s w _ _=>tR s w
theorem Lt(w0:World):CX ev ⟨212,#[]⟩ w0:=n7 (fun a w=>by kernel_rfl) w0 fun s w _ _=>BS s w
theorem GS(w0:World):CX fK ⟨163,#[]⟩ w0:=n7 (fun a w=>by kernel_rfl) w0 fun s w _ _=>by(have hE:fK s=s.toList.isEmpty:=by unfold fK;rw[aK]);rw[hE];cases D:s.toList.isEmpty;all_goals(go_enter Tryz.func163,Tryz.ntmps163);(go_wp2_with fail);go_ret;exact⟨rfl,gG _ _⟩
theorem Lu(w0:World):CX nY ⟨209,#[]⟩ w0:=n7 (fun a w=>by kernel_rfl) w0 fun s w _ _=>by(have hE:nY s=(s.toList.isEmpty||s.toList==[126]):=by unfold nY;rw[aK,dz s [126]]);rw[hE];cases I:s.toList.isEmpty<;>cases D:(s.toList==[126]);all_goals(go_enter Tryz.func209,Tryz.ntmps209);(go_wp2_with fail);go_ret;exact⟨rfl,gG _ _⟩
theorem Lw(w0:World):CX iS ⟨165,#[]⟩ w0:=n7 (fun a w=>by kernel_rfl) w0 fun s w _ _=>by(have hE:iS s=decide ((s.size:Int)<=1000):=by unfold iS;rw[qf];omega);rw[hE];(go_enter Tryz.func165,Tryz.ntmps165);(go_wp2_with fail);go_ret;exact⟨rfl,gG _ _⟩
theorem Lx(w0:World):CX ng ⟨166,#[]⟩ w0:=n7 (fun a w=>by kernel_rfl) w0 fun s w _ _=>by(have hE:ng s=(s.toList==[45]||s.toList==[33]):=by unfold ng;rw[dz s [45],dz s [33]]);rw[hE];cases I:(s.toList==[45])<;>cases D:(s.toList==[33]);all_goals(go_enter Tryz.func166,Tryz.ntmps166);(go_wp2_with fail);go_ret;exact⟨rfl,gG _ _⟩
theorem OV(w0:World):CX pu ⟨213,#[]⟩ w0:=n7 (fun a w=>by kernel_rfl) w0 fun s w _ _=>by(have hE:pu s=(s.toList==[43,43]||s.toList==[45,45]):=by unfold pu;rw[dz s [43,43],dz s [45,45]]);rw[hE];cases I:(s.toList==[43,43])<;>cases D:(s.toList==[45,45]);all_goals(go_enter Tryz.func213,Tryz.ntmps213);(go_wp2_with fail);go_ret;exact⟨rfl,gG _ _⟩
theorem GT(x:ByteArray)(w:World)(hT:dk w):
  Calls Tryz.prog 78 #[.string ⟨#[32,43,32,45,32,42,32,47,32,37,32,61,61,32,33,61,32,60,32,60,61,32,62,32,62,61,32,38,38,32,124,124,32]⟩,.string x] w fun e w'=>e=.returned (.bool (Lib.contains (32::iR) x.data.toList))/\w=w':=
 eZ _ x w hT (jB (show _<=100 by decide +kernel) (by omega))
theorem GU(w0:World)(hT:dk w0):CX iu ⟨167,#[]⟩ w0:=n7 (fun a w=>by kernel_rfl) w0 fun s w hb hs=>by
 have M:=hid (hT.below hb);(have hE:iu s=(!s.toList.isEmpty&&(!(Lib.contains s.data.toList [32])&&Lib.contains (32::iR) (32::(s.data.toList++[32])))):=by unfold iu;rw[aK,<-decide_not]);rw[hE];clear hE;have I:=hid (eZ s ⟨#[32]⟩ w M.out (by omega));(have J:((⟨#[32]⟩++s++⟨#[32]⟩:ByteArray)).data.toList=32::(s.data.toList++[32]):=by simp[ByteArray.data_append]);have D:=GT (⟨#[32]⟩++s++⟨#[32]⟩) w M.out;rw[J]at D;generalize Lib.contains (32::iR) (32::(s.data.toList++[32]))=q2 at *;have O:=hid D;rw[show(⟨#[32]⟩:BA).data.toList=[32]from rfl]at I;clear D J;cases N:Lib.contains s.data.toList [32]<;>cases hE:s.toList.isEmpty;all_goals
  (go_enter Tryz.func167,Tryz.ntmps167);(go_wp2_with fail);try
   refine I.out.mono ?_
   rw[N]
   rintro e w1⟨rfl,rfl⟩
   go_wp2_with fail
  try
   refine O.out.mono ?_
   rintro e w1⟨rfl,rfl⟩
   go_wp2_with fail
  go_ret;exact⟨rfl,gG _ _⟩
theorem GV(w0:World)(hT:dk w0):CX ew ⟨175,#[]⟩ w0:=n7 (fun a w=>by kernel_rfl) w0 fun s w hb hs=>by
 have HT:=hid (hT.below hb);have O:=hid (OU s ⟨#[44]⟩ w HT.out (by omega));(have hE:ew s=(s.toList.isEmpty||(((iJ s).2.2&&(aO ⟨(iJ s).1.toArray⟩&&ev ⟨(iJ s).2.1.toArray⟩))||(!(iJ s).2.2&&ev ⟨(iJ s).1.toArray⟩))):=by unfold ew;rw[aK]);rw[hE];clear hE;rw[show Lib.cut s.data.toList (⟨#[44]⟩:BA).data.toList=iJ s from rfl]at O;generalize iJ s=q at *;obtain⟨I,N,U⟩:=q;simp only at *;have h:=hid (fun w=>tR ⟨I.toArray⟩ w);have M:=hid (fun w=>BS ⟨I.toArray⟩ w);have J:=hid (fun w=>BS ⟨N.toArray⟩ w);generalize aO ⟨I.toArray⟩=n1 at *;generalize ev ⟨I.toArray⟩=b1 at *;generalize ev ⟨N.toArray⟩=b2 at *;cases ga:s.toList.isEmpty<;>cases U<;>cases n1<;>cases b1<;>cases b2;all_goals
  (go_enter Tryz.func175,Tryz.ntmps175);(go_wp2_with fail);refine O.out.mono ?_;rintro e w1⟨rfl,hB⟩;go_wp2_with (first
   |(go_at_call 118;with_reducible refine(h.out _).mono ?_;rintro e w2⟨rfl,D⟩;replace hB:=a8 hB D;clear D)
   |(go_at_call 212;with_reducible refine(J.out _).mono ?_;rintro e w2⟨rfl,D⟩;replace hB:=a8 hB D;clear D)
   |(go_at_call 212;with_reducible refine(M.out _).mono ?_;rintro e w2⟨rfl,D⟩;replace hB:=a8 hB D;clear D))
  go_ret;exact⟨rfl,hB⟩
theorem C5(l:List UInt8):l.all fk=true↔∀j,j<l.length->aW ((l.getD j 0).toNat:Int)=true:=by
 rw[qC];constructor
 ·intro h j D;have:=h l[j] (jC _);rw[fv]at this;simpa[D]using this
 ·intro h x hx;obtain⟨j,D,rfl⟩:=List.mem_iff_getElem.1 hx;have:=h j D;rw[fv];simpa[D]using this
theorem OW{s:ByteArray}(h:0<s.size):decide (s.data.toList.head? ≠ some 48)=((s[0].toNat:Int) != 48):=by(have e:s.data.toList.head? = some s[0]:=by rw[List.head?_eq_getElem?,gQ (by simpa using h)];rfl);rw[e,qb];simp only[ne_eq,Option.some.injEq,decide_not,qr,gK,kU];rw[<-UInt8.toNat_inj];simp only[UInt8.reduceToNat];omega
theorem GW(s:ByteArray)(w:World):Calls Tryz.prog 164 #[.string s] w fun e w'=>e=.returned (.bool (iI s))/\Below w w w':=by
 have hT:iI s=(s.data.toList.all fk&&(s.toList==[48]||(!s.toList.isEmpty&&(decide ((s.size:Int)<=200)&&decide (s.data.toList.head? ≠ some 48))))):=by
  unfold iI;rw[aK,dz s [48]];congr 3
  ·simp
  ·congr 1;rw[qf];omega
 have hN:=C5 s.data.toList;rw[hT];generalize s.data.toList.all fk=nc at *;have HN:=hid hN;clear hT hN;have i1:=qz w s 0;have i2:Below w w (w.iter s 0):=(gG _ w).alloc (d5 _) _;(go_enter Tryz.func164,Tryz.ntmps164);(go_wp2_with fail);go_loopg [4,7,8] s.size (fun g _ _ _ wr=>∃i:Nat,i<=s.size/\s.size-i<=g/\wr.heap[w.heap.size]? = some (.stringIter s i)/\Below w w wr/\(∀j,j<i->aW ((s.data.toList.getD j 0).toNat:Int)=true))
 case atStart=>exact⟨0,gP _,by omega,i1,i2,fun j hj=>by omega⟩
 case round=>
  clear i1 i2;obtain⟨i,hi,hg,hit,hB,h⟩:=hrel;have gd:=hid hit;have HA:=hid h;clear hit h;by_cases J:i<s.size
  ·have hw:=rW s i J;have ga:=oX s i J;have D:=fun ty=>qI (P:=Tryz.prog) wr w.heap.size s i ty gd.out J;generalize hb:(s.data.toList.getD i 0).toNat=b at *;generalize hd:Utf8.decode s i=q at *;obtain⟨r,k⟩:=q;simp only at hw D ga;have U:aW (r:Int)=aW (b:Int)/\(aW (r:Int)=true->k=1):=by
    rcases ga with⟨e,_⟩|⟨h1,h2⟩
    ·injection e with e1 e2;subst e1 e2;exact⟨rfl,fun _=>rfl⟩
    ·rw[fF (by omega),fF (by omega)];exact⟨rfl,by simp⟩
   have I:=hid U;have ge:=hid hb;have j1:=qL wr w.heap.size s i (i+k) gd.out;have j2:Below w w (wr.iterAt w.heap.size s (i+k)):=cW hB (d5 _);generalize wr.iterAt w.heap.size s (i+k)=W1 at D j1 j2;have J1:=hid j1;clear U ga j1 hd hb;have O:aW (r:Int)=false->nc=false:=by
    intro hf;cases hn:nc with
    |false=>rfl
    |true=>have:=(HN.out.1 hn) i (by simpa using J);rw[ge.out,<-I.out.1,hf]at this;cases this
   have M:=hid O;have gg:aW (r:Int)=true->∀j,j<i+k->aW ((s.data.toList.getD j 0).toNat:Int)=true:=by
    intro hf j hj;have hk:=I.out.2 hf;by_cases e:j=i
    ·subst e;rw[ge.out,<-I.out.1,hf]
    ·exact HA.out j (by omega)
   have gj:=hid gg;clear O gg I ge HA;unfold aW at M gj;cases h1:decide ((r:Int)<48)with
   |true=>have HX:=hid (M.out (by(have:decide (48<=(r:Int))=false:=by simp at h1 |-;omega);rw[this];rfl));(go_wp2_with fail);go_ret;exact⟨by rw[HX.out];rfl,j2⟩
   |false=>
    (have gb:decide (48<=(r:Int))=true:=by simp at h1 |-;omega);cases h2:decide (57<(r:Int))with
    |true=>have HX:=hid (M.out (by(have:decide ((r:Int)<=57)=false:=by simp at h2 |-;omega);rw[this];simp));clear gb;(go_wp2_with fail);go_ret;exact⟨by rw[HX.out];rfl,j2⟩
    |false=>
     have gi:=hid (gj.out (by(have:decide ((r:Int)<=57)=true:=by simp at h2 |-;omega);rw[gb,this];rfl));clear gb;(go_wp2_with fail);go_roundg (s.size-(i+k))
     case measure=>omega
     case rel=>exact⟨i+k,hw.2,d5 _,J1.out,j2,gi.out⟩
  ·(have gh:i=s.size:=by omega);have D:=fun ty=>qA (P:=Tryz.prog) wr w.heap.size s i ty gd.out J;have HX:Hid (nc=true):=hid (HN.out.2 fun j hj=>HA.out j (by simp at hj;omega));clear gh;cases N:(s.toList==[48])with
   |true=>(go_wp2_with fail);go_ret;exact⟨by rw[HX.out,N];rfl,hB⟩
   |false=>
    cases hE:s.toList.isEmpty with
    |true=>(go_wp2_with fail);go_ret;exact⟨by rw[HX.out,N,hE];rfl,hB⟩
    |false=>
     cases hL:decide ((s.size:Int)<=200)with
     |false=>(go_wp2_with fail);go_ret;exact⟨by rw[HX.out,N,hE,hL];rfl,hB⟩
     |true=>
      have hp:0<s.size:=by
       rcases kQ s.size with h0|h0
       ·(have:s.toList=[]:=by rw[qJ];exact jR h0);rw[this]at hE;cases hE
       ·exact h0
      (have yk:(0:Int)<(s.size:Int):=by omega);(go_wp2_with fail);go_ret;refine⟨?_,hB⟩;rw[HX.out,N,hE,hL,OW hp];rfl
theorem Ly(w0:World):CX iI ⟨164,#[]⟩ w0:=n7 (fun a w=>by kernel_rfl) w0 fun s w _ _=>GW s w
structure te(g:Nat)(F:dM):Prop where
 typ:iU g F.typ 121
 expr:iU g F.expr 122
 block:iU g F.block 157
 stmt:iU g F.stmt 123
 ifS:iU g F.ifS 173
theorem te.pred{d:Nat}{F:dM}(h:te (d+1) F):te d F:=
 ⟨h.typ.le fun _=>lW.succ,h.expr.le fun _=>lW.succ,h.block.le fun _=>lW.succ,h.stmt.le fun _=>lW.succ,h.ifS.le fun _=>lW.succ⟩
theorem lM(a:Array Value)(w:World):(callFunc 121 a).run Tryz.prog w=.ok (.enter 121 a) w:=by kernel_rfl
theorem eg(a:Array Value)(w:World):(callFunc 122 a).run Tryz.prog w=.ok (.enter 122 a) w:=by kernel_rfl
theorem nd(a:Array Value)(w:World):(callFunc 157 a).run Tryz.prog w=.ok (.enter 157 a) w:=by kernel_rfl
theorem L6(a:Array Value)(w:World):(callFunc 123 a).run Tryz.prog w=.ok (.enter 123 a) w:=by kernel_rfl
theorem R7(a:Array Value)(w:World):(callFunc 173 a).run Tryz.prog w=.ok (.enter 173 a) w:=by kernel_rfl
theorem Ih(a:Array Value)(w:World):(callFunc 174 a).run Tryz.prog w=.ok (.enter 174 a) w:=by kernel_rfl
theorem mx(d:Nat)(w0:World):oW d aE ⟨174,#[]⟩ w0:=⟨Ih,fun w v n _ hv _=>tP w v n hv⟩
theorem eQ.new{w:World}{b:Nat}(fs:List (Fv×(Nd->Bool))){cs:Array Value}(hc:cs=(fs.map fun x=>Value.func (.func x.1.k) #[] x.1.cap).toArray)(h:au w b 37 cs):eQ w (some ⟨b,0,none⟩) fs:=
 .inr ⟨b,rfl,by rw[<-hc];exact h⟩
theorem L7(g:Nat)(F:dM)(hF:te g F)(so:ByteArray->Bool)(f:Fv)(b:Nat)(w0:World)(hT:dk w0)(hs:CX so f w0)(hb:au w0 b 49 #[.func (.func f.k) #[] f.cap]):
  oW g (lG F so) ⟨210,#[b]⟩ w0:=by
 refine⟨fun a w=>by kernel_rfl,fun w v n hw hv hd=>?_⟩;cases g with
 |zero=>exact hd.elim
 |succ d=>have N:=hv;obtain⟨A,cp,rfl,hC⟩:=hv.toC;have hB:=(aH w (nv n A cp)).1;have D:=hw.alloc hw.size (.cells (nv n A cp) 24);have ca:=bg (hb.bl D);have HN:=hid (df _ _ n (N.below hB) f so (hs.below D) hd.txt);have HT:=hid (hT.below D);have HF:=hid hF;have HD:=hid hd;have ge:=hb.lt;have gd:=hw.size;show Calls _ _ _ w fun e w'=>e=.returned (.bool (fc 8 [F.typ] (aG so n)))/\_;clear N hv hC hb hs hT hF hd;(go_enter Tryz.func210,Tryz.ntmps210);(go_wp2_with fail);refine HN.out.mono ?_;rintro e w1⟨v1,rfl,U,J⟩;have gb:=hid (HT.out.below J);have ga:=a8 hB J;clear J HN hB D ca HT;(go_wp2_with fail);have I:=(gG w1.heap.size w1).alloc (d5 _) (.cells #[.func (.func 121) #[] #[]] 37);have O:=a8 ga I;refine(cD d [(⟨121,#[]⟩,F.typ)] 8 v1 (aG so n) _ _ 1 rfl (by omega) (U.below I) HD.out.named (eQ.new _ rfl (au.new w1 _ _)) (by intro x hx;obtain rfl:=List.mem_singleton.1 hx;exact HF.out.pred.typ.so lM _ (gb.out.below I))).mono ?_;rintro e w2⟨rfl,M⟩;have h:=a8 O M;clear I M O;(go_wp2_with fail);go_ret;exact⟨rfl,h⟩
theorem L8(g:Nat)(P:Nd->Bool)(f:Fv)(b:Nat)(w0:World)(hs:oW g P f w0)(hb:au w0 b 37 #[.func (.func f.k) #[] f.cap]):
  oW g (nL P) ⟨211,#[b]⟩ w0:=by
 refine⟨fun a w=>by kernel_rfl,fun w v n hw hv hd=>?_⟩;cases g with
 |zero=>exact hd.elim
 |succ d=>have J:=hv;obtain⟨A,cp,rfl,h⟩:=hv.toC;have hB:=(aH w (nv n A cp)).1;have D:=hw.alloc hw.size (.cells (nv n A cp) 24);have ca:=bg (hb.bl D);have N:=hid (C2 d P f _ n _ (J.below hB) hd ⟨hs.enter,fun w' v' n' h1 h2 h3=>hs.out w' v' n' (a8 D h1) h2 h3.succ⟩);have U:=hb.lt;have O:=hw.size;clear J hv h hb hs hd;(go_enter Tryz.func211,Tryz.ntmps211);(go_wp2_with fail);refine N.out.mono ?_;rintro e w1⟨rfl,I⟩;have M:=a8 hB I;clear I N hB;(go_wp2_with fail);go_ret;exact⟨rfl,M⟩
theorem mW{w:World}{g:Nat}{t:TypeId}{a b c d:Value}(h:au w g t #[a,b,c,d]):w.cell? ⟨g,0,none⟩=some a/\w.cell? ⟨g,1,none⟩=some b/\w.cell? ⟨g,2,none⟩=some c/\w.cell? ⟨g,3,none⟩=some d:=by obtain⟨M,J,I,D,_⟩:=ag h;exact⟨M,J,I,D⟩
theorem DE{d:Nat}{w:World}{f g:Fv}{P Q:Nd->Bool}(I:oW d P f w)(D:oW d Q g w):∀x∈[(f,P),(g,Q)],oW d x.2 x.1 w:=by
 intro x hx;rcases List.mem_cons.1 hx with rfl|hx
 ·exact I
 ·obtain rfl:=List.mem_singleton.1 hx;exact D
theorem F1(g:Nat)(F:dM)(hF:te g F)(so:ByteArray->Bool)(f:Fv)(v:Value)(n:Nd)(w:World)(hT:dk w)(hv:bR w v n)(hd:lW (g+1) n)(hs:CX so f w):
  Calls Tryz.prog 162 #[v,.func (.func f.k) #[] f.cap] w fun e w'=>e=.returned (.bool (wK F so n))/\Below w w w':=by
 have N:=hv;obtain⟨A,cp,rfl,hC⟩:=hv.toC;have HV:=hid N;have HT:=hid hT;have HS:=hid hs;have HD:=hid hd;have HF:=hid hF;clear N hv hC hT hs hd hF;show Calls _ _ _ w fun e w'=>e=.returned (.bool (fc 12 [nL (lG F so),dv aE F.typ] n))/\_;(go_enter Tryz.func162,Tryz.ntmps162);(go_wp2_with fail);have c0:au (((w.alloc (.cells (nv n A cp) 24)).alloc (.cells #[.func (.func f.k) #[] f.cap] 49)).alloc (.cells #[.func (.func 210) #[] #[.pointer (some ⟨w.heap.size+1,0,none⟩)]] 37)) w.heap.size 24 (nv n A cp):=((au.new w _ _).alloc _).alloc _;have c1:au (((w.alloc (.cells (nv n A cp) 24)).alloc (.cells #[.func (.func f.k) #[] f.cap] 49)).alloc (.cells #[.func (.func 210) #[] #[.pointer (some ⟨w.heap.size+1,0,none⟩)]] 37)) (w.heap.size+1) 49 #[.func (.func f.k) #[] f.cap]:=(au.new_at (by simp) _ _).alloc _;have c2:au (((w.alloc (.cells (nv n A cp) 24)).alloc (.cells #[.func (.func f.k) #[] f.cap] 49)).alloc (.cells #[.func (.func 210) #[] #[.pointer (some ⟨w.heap.size+1,0,none⟩)]] 37)) (w.heap.size+1+1) 37 #[.func (.func 210) #[] #[.pointer (some ⟨w.heap.size+1,0,none⟩)]]:=au.new_at (by simp) _ _;have hB:Below w w (((w.alloc (.cells (nv n A cp) 24)).alloc (.cells #[.func (.func f.k) #[] f.cap] 49)).alloc (.cells #[.func (.func 210) #[] #[.pointer (some ⟨w.heap.size+1,0,none⟩)]] 37)):=mP;generalize(((w.alloc (.cells (nv n A cp) 24)).alloc (.cells #[.func (.func f.k) #[] f.cap] 49)).alloc (.cells #[.func (.func 210) #[] #[.pointer (some ⟨w.heap.size+1,0,none⟩)]] 37))=W at *;have gb:=hid (HV.out.below hB);have U:=hid (HT.out.below hB);have HL:=hid (L8 g (lG F so) ⟨210,#[.pointer (some ⟨w.heap.size+1,0,none⟩)]⟩ (w.heap.size+1+1) W (L7 g F HF.out so f _ W U.out (HS.out.below hB) c1) c2);have J:=c0.lt;have ge:=c2.lt;have I:Below W W W.drew:=(gG _ _).drew;have gd:=hid (U.out.below I);have O:=a8 hB I;have C0:=hid c0.drew;clear c1 c2 c0 hB HT HV HS;go_region_held3 (fun w'=>w'.cell? ⟨w,0,none⟩=some (.int .i64 n.kind)/\w'.cell? ⟨w,1,none⟩=some (.string n.text)/\w'.cell? ⟨w,2,none⟩=some (.slice A n.kids.length cp)/\w'.cell? ⟨w,3,none⟩=some (.int .i64 n.pos))
  (first|with_reducible exact mW q3|with_reducible exact mW (q2.alloc _)|with_reducible exact mW q2|with_reducible exact mW C0.out)
  (first
   |(go_at_call 158;refine(iK g aE F.typ ⟨174,#[]⟩ ⟨121,#[]⟩ _ (mx g _) (HF.out.typ.so lM _ gd.out)).mono ?_;rintro e w2⟨h,rfl,ga,D⟩;have q2:=C0.out.below D J)
   |(go_at_call 154;refine(cD g [(⟨211,#[.pointer (some ⟨w.heap.size+1+1,0,none⟩)]⟩,nL (lG F so)),(h,dv aE F.typ)] 12 _ n _ _ 2 rfl (by omega) ((gb.out.below I).below (D.alloc D.size _)) HD.out (eQ.new _ rfl (au.new w2 _ _)) (DE ((HL.out.below I).below (D.alloc D.size _)) (ga.below ((gG _ w2).alloc (d5 _) _)))).mono ?_;rintro e w3⟨rfl,M⟩;have q3:=(q2.alloc _).below M (kH J (jB D.size (by simp)))))
 (all_goals go_wp2_with fail);(all_goals go_ret);all_goals exact⟨rfl,(a8 O D).trans ((((gG _ w2).alloc (d5 _) _).trans (M.mono (by simp))).mono (jB O.size D.size))⟩
theorem iV{d:Nat}{w:World}{f:Fv}{P:Nd->Bool}(D:oW d P f w):∀x∈[(f,P)],oW d x.2 x.1 w:=by intro x hx;obtain rfl:=List.mem_singleton.1 hx;exact D
theorem my{d:Nat}{w:World}{f g:Fv}{P Q:Nd->Bool}(I:oW d P f w)(D:oW d Q g w):∀x∈[(f,P),(g,Q)],oW d x.2 x.1 w:=DE I D
theorem yd{d:Nat}{w:World}{f g h:Fv}{P Q R:Nd->Bool}(J:oW d P f w)(I:oW d Q g w)(D:oW d R h w):∀x∈[(f,P),(g,Q),(h,R)],oW d x.2 x.1 w:=by
 intro x hx;rcases List.mem_cons.1 hx with rfl|hx
 ·exact J
 ·exact my I D x hx
theorem L9{d:Nat}{w:World}{f g h k:Fv}{P Q R S:Nd->Bool}(M:oW d P f w)(J:oW d Q g w)(I:oW d R h w)(D:oW d S k w):∀x∈[(f,P),(g,Q),(h,R),(k,S)],oW d x.2 x.1 w:=by
 intro x hx;rcases List.mem_cons.1 hx with rfl|hx
 ·exact M
 ·exact yd J I D x hx
theorem Ma(a:Array Value)(w:World):(callFunc 208 a).run Tryz.prog w=.ok (.enter 208 a) w:=by kernel_rfl
theorem Ii(a:Array Value)(w:World):(callFunc 207 a).run Tryz.prog w=.ok (.enter 207 a) w:=by kernel_rfl
theorem r9(a:Array Value)(w:World):(callFunc 156 a).run Tryz.prog w=.ok (.enter 156 a) w:=by kernel_rfl
theorem DF(a:Array Value)(w:World):(callFunc 124 a).run Tryz.prog w=.ok (.enter 124 a) w:=by kernel_rfl
theorem E4(a:Array Value)(w:World):(callFunc 159 a).run Tryz.prog w=.ok (.enter 159 a) w:=by kernel_rfl
theorem AZ(a:Array Value)(w:World):(callFunc 160 a).run Tryz.prog w=.ok (.enter 160 a) w:=by kernel_rfl
theorem R8(g:Nat)(F:dM)(hF:te g F):iU (g+1) (oz F) 208:=by intro w v n hT hv hd;have N:=hv;obtain⟨A,cp,rfl,hC⟩:=hv.toC;have hB:=(aH w (nv n A cp)).1;have b1:=(aH w (nv n A cp)).2;have HV:=hid (N.below hB);have gd:=hid N;have HT:=hid (hT.below hB);have HF:=hid hF;have HD:=hid hd;clear N hv hC hT hF hd;have HE:=hid (show oz F n=fc 15 [F.typ] (aG nY n)from rfl);(go_enter Tryz.func208,Tryz.ntmps208);(go_wp2_with fail);refine(df _ _ n HV.out ⟨209,#[]⟩ nY (Lu _) HD.out.txt).mono ?_;rintro e w1⟨v1,rfl,O,M⟩;have ga:=a8 hB M;have U:=hid (dk.below HT.out M);have gb:=hid O;clear M O;(go_wp2_with fail);have D:=(gG w1.heap.size w1).alloc (d5 _) (.cells #[.func (.func 121) #[] #[]] 37);have I:=a8 ga D;refine(cD g [(⟨121,#[]⟩,F.typ)] 15 v1 (aG nY n) _ _ 1 rfl (by omega) (gb.out.below D) HD.out.named (eQ.new _ rfl (au.new w1 _ _)) (iV (HF.out.typ.so lM _ (dk.below U.out D)))).mono ?_;rintro e w2⟨rfl,J⟩;have h:=a8 I J;have ge:=hid (dk.below (dk.below U.out D) J);clear D I;clear J;(go_wp2_with fail);go_ret;exact⟨by rw[HE.out];rfl,h⟩
theorem Pj(g:Nat)(F:dM)(hF:te g F):iU (g+1) (nZ F) 207:=by intro w v n hT hv hd;have N:=hv;obtain⟨A,cp,rfl,hC⟩:=hv.toC;have hB:=(aH w (nv n A cp)).1;have b1:=(aH w (nv n A cp)).2;have HV:=hid (N.below hB);have gd:=hid N;have HT:=hid (hT.below hB);have HF:=hid hF;have HD:=hid hd;clear N hv hC hT hF hd;have HE:=hid (show nZ F n=fc 9 [F.typ] (aG aO n)from rfl);(go_enter Tryz.func207,Tryz.ntmps207);(go_wp2_with fail);refine(df _ _ n HV.out ⟨118,#[]⟩ aO (mS _) HD.out.txt).mono ?_;rintro e w1⟨v1,rfl,O,M⟩;have ga:=a8 hB M;have U:=hid (dk.below HT.out M);have gb:=hid O;clear M O;(go_wp2_with fail);have D:=(gG w1.heap.size w1).alloc (d5 _) (.cells #[.func (.func 121) #[] #[]] 37);have I:=a8 ga D;refine(cD g [(⟨121,#[]⟩,F.typ)] 9 v1 (aG aO n) _ _ 1 rfl (by omega) (gb.out.below D) HD.out.named (eQ.new _ rfl (au.new w1 _ _)) (iV (HF.out.typ.so lM _ (dk.below U.out D)))).mono ?_;rintro e w2⟨rfl,J⟩;have h:=a8 I J;have ge:=hid (dk.below (dk.below U.out D) J);clear D I;clear J;(go_wp2_with fail);go_ret;exact⟨by rw[HE.out];rfl,h⟩
theorem F2(g:Nat)(F:dM)(hF:te g F):iU (g+1) (ct F) 160:=by
 intro w v n hT hv hd;have D:=hv;obtain⟨A,cp,rfl,M⟩:=hv.toC;have hB:=(aH w (nv n A cp)).1;have b1:=(aH w (nv n A cp)).2;have O:=hid (D.below hB);have N:=hid D;have U:=hid (hT.below hB);have HF:=hid hF;have J:=hid hd;clear D hv M hT hF hd;have h:=hid (lI g (oz F) ⟨208,#[]⟩ A cp n.kids _ O.out.kidsV J.out.2 J.out.1.1 (((R8 g F HF.out).le fun _=>lW.succ).so Ma _ U.out));(have hE:ct F n=((n.kind==14)&&(n.text.toList.isEmpty&&(decide (0<n.kids.length)&&n.kids.all (oz F)))):=by unfold ct;rw[aK,lH]);rw[hE];clear hE;generalize n.kids.all (oz F)=q at *;cases h0:(n.kind==14)<;>cases h1:n.text.toList.isEmpty<;>cases h2:decide (0<n.kids.length);all_goals
  (go_enter Tryz.func160,Tryz.ntmps160);(go_wp2_with fail);try
   refine h.out.mono ?_
   rintro e w1⟨rfl,I⟩
   replace hB:=a8 hB I
   clear I
   go_wp2_with fail
  go_ret;exact⟨rfl,hB⟩
theorem E5(g:Nat)(F:dM)(hF:te g F):iU (g+1) (cK F) 159:=by
 intro w v n hT hv hd;have D:=hv;obtain⟨A,cp,rfl,M⟩:=hv.toC;have hB:=(aH w (nv n A cp)).1;have b1:=(aH w (nv n A cp)).2;have O:=hid (D.below hB);have N:=hid D;have U:=hid (hT.below hB);have HF:=hid hF;have J:=hid hd;clear D hv M hT hF hd;have h:=hid (lI g (nZ F) ⟨207,#[]⟩ A cp n.kids _ O.out.kidsV J.out.2 J.out.1.1 (((Pj g F HF.out).le fun _=>lW.succ).so Ii _ U.out));(have hE:cK F n=((n.kind==13)&&(n.text.toList.isEmpty&&n.kids.all (nZ F))):=by unfold cK;rw[aK,lH]);rw[hE];clear hE;generalize n.kids.all (nZ F)=q at *;cases h0:(n.kind==13)<;>cases h1:n.text.toList.isEmpty;all_goals
  (go_enter Tryz.func159,Tryz.ntmps159);(go_wp2_with fail);try
   refine h.out.mono ?_
   rintro e w1⟨rfl,I⟩
   replace hB:=a8 hB I
   clear I
   go_wp2_with fail
  go_ret;exact⟨rfl,hB⟩
theorem DG(g:Nat)(F:dM)(hF:te g F):iU (g+1) (ld F) 124:=by intro w v n hT hv hd;have D:=hv;obtain⟨A,cp,rfl,M⟩:=hv.toC;have hB:=(aH w (nv n A cp)).1;have b1:=(aH w (nv n A cp)).2;have O:=hid (D.below hB);have N:=hid D;have U:=hid (hT.below hB);have HF:=hid hF;have HD:=hid hd;clear D hv M hT hF hd;have h:=hid (F1 g F HF.out aO ⟨118,#[]⟩ _ n _ U.out O.out HD.out (mS _));rw[show ld F n=wK F aO n from rfl];(go_enter Tryz.func124,Tryz.ntmps124);(go_wp2_with fail);refine h.out.mono ?_;rintro e w1⟨rfl,I⟩;have J:=a8 hB I;clear I;(go_wp2_with fail);go_ret;exact⟨rfl,J⟩
theorem R9(g:Nat)(F:dM)(hF:te g F):iU (g+1) (l5 F) 121:=by
 intro w v n hT hv hd;obtain⟨nk,nt,nl,np⟩:=n;have U:=hv;obtain⟨A,cp,rfl,hC⟩:=hv.toC;simp only[Nd.kind_mk,Nd.text_mk,Nd.kids_mk,Nd.pos_mk]at U |-;have hB:=(aH w #[.int .i64 nk,.string nt,.slice A nl.length cp,.int .i64 np]).1;have b1:=(aH w #[.int .i64 nk,.string nt,.slice A nl.length cp,.int .i64 np]).2;have HV:=hid (U.below hB);have gi:=hid U;have HT:=hid (hT.below hB);have HF:=hid hF;have HD:=hid hd;clear U hv hC hT hF hd;by_cases I:nk=10
 ·subst I;have HE:=hid (show l5 F (Nd.mk 10 nt nl np)=(aO nt&&nl.all F.typ)from rfl);(go_enter Tryz.func121,Tryz.ntmps121);(go_wp2_with fail);have HI:=hid (fun w'(hb:Below (w.alloc (.cells #[.int .i64 10,.string nt,.slice A nl.length cp,.int .i64 np] 24)).heap.size (w.alloc (.cells #[.int .i64 10,.string nt,.slice A nl.length cp,.int .i64 np] 24)) w')=>lI g F.typ ⟨121,#[]⟩ A cp nl _ (HV.out.below hb).kidsV HD.out.2 HD.out.1.1 (HF.out.typ.so lM _ (HT.out.below hb)));refine(tR _ _).mono ?_;rintro e w1⟨rfl,D⟩;have N:=a8 hB D;have gd:=hid (HI.out _ D);obtain⟨x0,x1,x2,x3,_,_,_,_⟩:=ag (b1.below D (by simp));clear D HI;cases hq:aO nt with
  |false=>(go_wp2_with fail);go_ret;exact⟨by rw[HE.out,hq];rfl,N⟩
  |true=>(go_wp2_with fail);refine gd.out.mono ?_;rintro e w2⟨rfl,ga⟩;have gb:=a8 N ga;clear ga;(go_wp2_with fail);go_ret;exact⟨by rw[HE.out,hq];rfl,gb⟩
 by_cases J:nk=11
 ·subst J;clear I;have HE:=hid (show l5 F (Nd.mk 11 nt nl np)=fc 11 [F.typ] (Nd.mk 11 nt nl np)from rfl);(go_enter Tryz.func121,Tryz.ntmps121);(go_wp2_with fail);have O:=(gG (w.alloc (.cells #[.int .i64 11,.string nt,.slice A nl.length cp,.int .i64 np] 24)).heap.size (w.alloc (.cells #[.int .i64 11,.string nt,.slice A nl.length cp,.int .i64 np] 24))).alloc (d5 _) (.cells #[.func (.func 121) #[] #[]] 37);have h:=a8 hB O;refine(cD g [(⟨121,#[]⟩,F.typ)] 11 _ ((Nd.mk 11 nt nl np)) _ _ 1 rfl (by omega) (HV.out.below O) HD.out (eQ.new _ rfl (au.new_at (n:=w.heap.size+1) (by simp) _ _)) (iV (HF.out.typ.so lM _ (dk.below HT.out O)))).mono ?_;rintro e w1⟨rfl,D⟩;have N:=a8 h D;have gj:=hid (dk.below (dk.below HT.out O) D);clear O h;clear D;(go_wp2_with fail);go_ret;exact⟨by rw[HE.out];rfl,N⟩
 by_cases M:nk=12
 ·subst M;clear I J;have HE:=hid (show l5 F (Nd.mk 12 nt nl np)=wK F fK (Nd.mk 12 nt nl np)from rfl);(go_enter Tryz.func121,Tryz.ntmps121);(go_wp2_with fail);refine(F1 g F HF.out fK ⟨163,#[]⟩ _ (Nd.mk 12 nt nl np) _ HT.out HV.out HD.out (GS _)).mono ?_;rintro e w1⟨rfl,D⟩;have N:=a8 hB D;clear D;(go_wp2_with fail);go_ret;exact⟨by rw[HE.out];rfl,N⟩
 have HE:Hid (l5 F (Nd.mk nk nt nl np)=false):=hid (by unfold l5;simp only[Nd.kind_mk,I,J,M,jY]);(have gh:(nk==10)=false:=by simpa using I);(have gg:(nk==11)=false:=by simpa using J);(have ge:(nk==12)=false:=by simpa using M);clear I J M;(go_enter Tryz.func121,Tryz.ntmps121);(go_wp2_with fail);go_ret;exact⟨by rw[HE.out];rfl,hB⟩
theorem E6(a:Array Value)(w:World):(callFunc 203 a).run Tryz.prog w=.ok (.enter 203 a) w:=by kernel_rfl
theorem Mb(g:Nat)(F:dM)(hF:te g F):iU g (fQ F) 203:=by
 intro w v n hT hv hd;have I:=hv;obtain⟨A,cp,rfl,M⟩:=hv.toC;have hB:=(aH w #[.int .i64 n.kind,.string n.text,.slice A n.kids.length cp,.int .i64 n.pos]).1;have N:=hid (hF.typ _ _ n (hT.below hB) (I.below hB) hd);(have hE:fQ F n=(n.kind==10&&F.typ n):=by unfold fQ;rw[lH]);rw[hE];clear hE I hv M hT hF hd;generalize F.typ n=q at *;generalize n.kind=k at *;cases J:(k==10);all_goals
  (go_enter Tryz.func203,Tryz.ntmps203);(go_wp2_with fail);try
   rw[kK]at J
   subst J
   refine N.out.mono ?_
   rintro e w1⟨rfl,D⟩
   replace hB:=a8 hB D
   clear D
   go_wp2_with fail
  go_ret;exact⟨rfl,hB⟩
theorem ye{w:World}{g b:Nat}{t u:TypeId}{a0 a1 a2 a3 x:Value}(h:au w g t #[a0,a1,a2,a3])(h':au w b u #[x]):
  w.cell? ⟨g,0,none⟩=some a0/\w.cell? ⟨g,1,none⟩=some a1/\w.cell? ⟨g,2,none⟩=some a2/\w.cell? ⟨g,3,none⟩=some a3/\w.cell? ⟨b,0,none⟩=some x:=by obtain⟨M,J,I,D⟩:=mW h;exact⟨M,J,I,D,bg h'⟩
theorem Ij(g:Nat)(F:dM)(hF:te g F)(b:Nat)(w0:World)(hT:dk w0)(hb:au w0 b 37 #[.func (.func 203) #[] #[]]):
  oW g (nM F) ⟨205,#[b]⟩ w0:=by
 refine⟨fun a w=>by kernel_rfl,fun w v n hw hv hd=>?_⟩;cases g with
 |zero=>exact hd.elim
 |succ d=>
  have U:=hv;obtain⟨A,cp,rfl,hC⟩:=hv.toC;have hB:=(aH w #[.int .i64 n.kind,.string n.text,.slice A n.kids.length cp,.int .i64 n.pos]).1;have M:=hw.alloc hw.size (.cells #[.int .i64 n.kind,.string n.text,.slice A n.kids.length cp,.int .i64 n.pos] 24);have c0:=(aH w #[.int .i64 n.kind,.string n.text,.slice A n.kids.length cp,.int .i64 n.pos]).2;have cb:=hb.bl M;have HV:=hid (U.below hB);have HT:=hid (hT.below M);have HF:=hid hF.pred;have HD:=hid hd;have gm:=hb.lt;have gl:=hw.size;show Calls _ _ _ w fun e w'=>e=.returned (.bool (fc 7 [dv (fQ F) (ct F)] (aG aO n)))/\_;clear U hv hC hb hT hF hd M;(go_enter Tryz.func205,Tryz.ntmps205);(go_wp2_with fail);generalize w.alloc (.cells #[.int .i64 n.kind,.string n.text,.slice A n.kids.length cp,.int .i64 n.pos] 24)=W at *;have N:Below W W W.drew:=(gG _ _).drew;have gg:=c0.lt;have ge:=cb.lt;have gi:=a8 hB N;have gj:=hid (HV.out.below N);have gk:=hid (HT.out.below N);have C0:=hid c0.drew;have CB:=hid cb.drew;clear c0 cb HV HT hB;go_region_held3 (fun w'=>w'.cell? ⟨w,0,none⟩=some (.int .i64 n.kind)/\w'.cell? ⟨w,1,none⟩=some (.string n.text)/\w'.cell? ⟨w,2,none⟩=some (.slice A n.kids.length cp)/\w'.cell? ⟨w,3,none⟩=some (.int .i64 n.pos)/\w'.cell? ⟨b,0,none⟩=some (.func (.func 203) #[] #[]))
   (first|with_reducible exact ye q4 r4|with_reducible exact ye (q3.alloc _) (r3.alloc _)|with_reducible exact ye q3 r3|with_reducible exact ye q2 r2|with_reducible exact ye C0.out CB.out)
   (first
    |(go_at_call 155;refine(df _ _ n gj.out ⟨118,#[]⟩ aO (mS _) HD.out.txt).mono ?_;rintro e w2⟨v1,rfl,gb,I⟩;have q2:=C0.out.below I gg;have r2:=CB.out.below I ge;have ga:=hid (gk.out.below I))
    |(go_at_call 158;refine(iK d (fQ F) (ct F) ⟨203,#[]⟩ ⟨160,#[]⟩ _ ((Mb d F HF.out).so E6 _ ga.out) (((F2 d F HF.out).le fun _=>lW.succ).so AZ _ ga.out)).mono ?_;rintro e w3⟨h,rfl,gd,D⟩;have q3:=q2.bl D;have r3:=r2.bl D)
    |(go_at_call 154;refine(cD d [(h,dv (fQ F) (ct F))] 7 v1 (aG aO n) _ _ 1 rfl (by omega) ((gb.below D).below ((gG _ w3).alloc (d5 _) _)) HD.out.named (eQ.new _ rfl (au.new w3 _ _)) (iV (gd.below ((gG _ w3).alloc (d5 _) _)))).mono ?_;rintro e w4⟨rfl,O⟩;have q4:=(q3.alloc _).below O (q3.alloc _).lt;have r4:=(r3.alloc _).below O (r3.alloc _).lt))
  (all_goals go_wp2_with fail);(all_goals go_ret);all_goals have gh:=a8 gi I;have J:=a8 gh D;exact⟨rfl,(J.alloc J.size _).trans (O.mono (J.alloc J.size _).size)⟩
theorem sa(g:Nat)(F:dM)(hF:te g F):iU (g+1) (cC F) 156:=by intro w v n hT hv hd;have I:=hv;obtain⟨A,cp,rfl,N⟩:=hv.toC;have hB:=((gG w.heap.size w).alloc (d5 _) (.cells #[.int .i64 n.kind,.string n.text,.slice A n.kids.length cp,.int .i64 n.pos] 24)).alloc (by simp) (.cells #[.func (.func 203) #[] #[]] 37);have M:au ((w.alloc (.cells #[.int .i64 n.kind,.string n.text,.slice A n.kids.length cp,.int .i64 n.pos] 24)).alloc (.cells #[.func (.func 203) #[] #[]] 37)) (w.heap.size+1) 37 #[.func (.func 203) #[] #[]]:=au.new_at (by simp) _ _;have O:=hid (C2 g (nM F) ⟨205,#[.pointer (some ⟨w.heap.size+1,0,none⟩)]⟩ _ n _ (I.below hB) hd (Ij g F hF _ _ (hT.below hB) M));show Calls _ _ _ w fun e w'=>e=.returned (.bool (nL (nM F) n))/\_;clear I hv N M hT hF hd;(go_enter Tryz.func156,Tryz.ntmps156);(go_wp2_with fail);refine O.out.mono ?_;rintro e w1⟨rfl,D⟩;have J:=a8 hB D;clear D;(go_wp2_with fail);go_ret;exact⟨rfl,J⟩
theorem Pk{k:Int}{l:List (Nd->Bool)}{so:ByteArray->Bool}{n:Nd}(I:l.length≠0)(h:fc k l (aG so n)=true):n.kids.length=l.length:=by
 unfold fc at h;simp only[gB]at h;have D:=h.2.2;rcases Decidable.em (l.length=(aG so n).kids.length)with e|e
 ·unfold aG at e;split at e
  ·exact e.symm
  ·exact absurd e I
 ·rw[rX _ _ e]at D;cases D
theorem F3(g:Nat)(F:dM)(hF:te g F):iU (g+1) (oU F) 161:=by
 intro w v n hT hv hd;have gh:=hv;obtain⟨A,cp,rfl,hC⟩:=hv.toC;have hB:=(aH w (nv n A cp)).1;have b1:=(aH w (nv n A cp)).2;have HV:=hid (gh.below hB);have hy:=hid gh;have HT:=hid (hT.below hB);have HF:=hid hF;have HD:=hid hd;clear gh hv hC hT hF hd;have g3:=gG (w.alloc (.cells (nv n A cp) 24)).heap.size (w.alloc (.cells (nv n A cp) 24));have hE:oU F n=(fc 5 [dv aE F.typ,dv aE F.expr] (aG aO n)&&(!(aE (n.kids.getD 0 bU)) || !(aE (n.kids.getD 1 bU)))):=rfl;rw[hE];clear hE;(go_enter Tryz.func161,Tryz.ntmps161);(go_wp2_with fail);refine(df _ _ n HV.out ⟨118,#[]⟩ aO (mS _) HD.out.txt).mono ?_;rintro e w1⟨v1,rfl,gj,ga⟩;have g6:=a8 hB ga;have gx:=hid (dk.below HT.out ga);have g2:=a8 g3 ga;have g7:=hid gj;clear ga gj;(go_wp2_with fail);refine(iK g aE F.typ ⟨174,#[]⟩ ⟨121,#[]⟩ _ (mx g _) (HF.out.typ.so lM _ gx.out)).mono ?_;rintro e w2⟨h1,rfl,gd,M⟩;have g5:=a8 g6 M;have gw:=hid (dk.below gx.out M);have g1:=a8 g2 M;have gz:=hid (g7.out.below M);have gv:=hid gd;clear M gd;(go_wp2_with fail);refine(iK g aE F.expr ⟨174,#[]⟩ ⟨122,#[]⟩ _ (mx g _) (HF.out.expr.so eg _ gw.out)).mono ?_;rintro e w3⟨h2,rfl,gb,J⟩;have g4:=a8 g5 J;have g8:=hid (dk.below gw.out J);have gi:=hid (gv.out.below J);have g0:=a8 g1 J;have gy:=hid (gz.out.below J);have gu:=hid gb;clear J gb;(go_wp2_with fail);have I:=(gG w3.heap.size w3).alloc (d5 _) (.cells #[.func (.func h1.k) #[] h1.cap,.func (.func h2.k) #[] h2.cap] 37);have gg:=a8 g4 I;refine(cD g [(h1,(dv aE F.typ)),(h2,(dv aE F.expr))] 5 v1 (aG aO n) _ _ 2 rfl (by omega) (gy.out.below I) HD.out.named (eQ.new _ rfl (au.new w3 _ _)) (my (gi.out.below I) (gu.out.below I))).mono ?_;rintro e w4⟨rfl,h⟩;have gs:=a8 gg h;have hz:=hid (dk.below (dk.below g8.out I) h);have gq:=a8 g0 I;have O:=a8 gq h;clear I gg;clear h;cases hq:fc 5 [dv aE F.typ,dv aE F.expr] (aG aO n)with
 |false=>(go_wp2_with fail);go_ret;exact⟨by rw[hq];rfl,gs⟩
 |true=>
  have HQ:=hid hq;have hl:=Pk (by simp) hq;have HL:=hid hl;(have gp:0<n.kids.length:=by simp at hl;omega);(have gn:1<n.kids.length:=by simp at hl;omega);have N:=b1.below O (by simp);obtain⟨x0,x1,x2,x3,_,_,_,_⟩:=ag N;obtain⟨-,b,off,A1,hw,rfl,U,k0,k1,k2,k3,gm⟩:=nh.at_ (aq.kidsV (HV.out.below O)) 0 gp;obtain⟨_,b',off',A2,hu,e2,hf,j0,j1,j2,j3,gl⟩:=nh.at_ (aq.kidsV (HV.out.below O)) 1 gn;injection e2 with e2;injection e2 with e2 e3;subst e2 e3;have K0:=hid (show n.kids.getD 0 bU=n.kids[0]by simp[gp]);have K1:=hid (show n.kids.getD 1 bU=n.kids[1]by simp[gn]);simp only[kE,jP,vB]at k0 k1 k2 k3 j0 j1 j2 j3;generalize n.kids[0]=y0 at *;generalize n.kids[1]=y1 at *;have he:=hid (tP _ _ y0 gm);have g9:=hid gl;have ht:=O.size;(have hr:(0:Int)<(n.kids.length:Int):=by omega);(have hp:(1:Int)<(n.kids.length:Int):=by omega);clear gm gl hl hq;(go_wp2_with fail);refine he.out.mono ?_;rintro e w9⟨rfl,D⟩;have gr:=a8 gs D;cases gk:aE y0 with
  |false=>clear D;(go_wp2_with fail);go_ret;exact⟨by rw[HQ.out,K0.out,K1.out,gk];rfl,gr⟩
  |true=>obtain⟨hj,hi,hh,hg,_,_,_,_⟩:=ag (N.bl D);have ho:=(D.cell (p:=⟨b,off+4,none⟩) U).trans j0;have hn:=(D.cell (p:=⟨b,off+4+1,none⟩) U).trans j1;have hm:=(D.cell (p:=⟨b,off+4+2,none⟩) U).trans j2;have hk:=(D.cell (p:=⟨b,off+4+3,none⟩) U).trans j3;have ha:=hid (tP _ _ y1 (g9.out.below D));clear D x0 x1 x2 x3 k0 k1 k2 k3 j0 j1 j2 j3 N;(go_wp2_with fail);refine ha.out.mono ?_;rintro e w10⟨rfl,ge⟩;have gt:=a8 gr ge;clear ge;(go_wp2_with fail);go_ret;exact⟨by rw[HQ.out,K0.out,K1.out,gk];rfl,gt⟩
theorem Sa(g:Nat)(F:dM)(hF:te g F):iU (g+1) (f8 F) 120:=by
 intro w v n hT hv hd;obtain⟨nk,nt,nl,np⟩:=n;have gi:=hv;obtain⟨A,cp,rfl,hC⟩:=hv.toC;simp only[Nd.kind_mk,Nd.text_mk,Nd.kids_mk,Nd.pos_mk]at gi |-;have hB:=(aH w #[.int .i64 nk,.string nt,.slice A nl.length cp,.int .i64 np]).1;have b1:=(aH w #[.int .i64 nk,.string nt,.slice A nl.length cp,.int .i64 np]).2;have HV:=hid (gi.below hB);have gx:=hid gi;have HT:=hid (hT.below hB);have HF:=hid hF;have HD:=hid hd;clear gi hv hC hT hF hd;by_cases ga:nk=2
 ·subst ga;have HE:=hid (show f8 F (Nd.mk 2 nt nl np)=fc 2 [cC F,ld F,F.block] (aG aO (Nd.mk 2 nt nl np))from rfl);(go_enter Tryz.func120,Tryz.ntmps120);(go_wp2_with fail);refine(df _ _ (Nd.mk 2 nt nl np) HV.out ⟨118,#[]⟩ aO (mS _) HD.out.txt).mono ?_;rintro e w1⟨v1,rfl,N,I⟩;have U:=a8 hB I;have M:=hid (dk.below HT.out I);have gg:=hid N;clear I N;(go_wp2_with fail);have D:=(gG w1.heap.size w1).alloc (d5 _) (.cells #[.func (.func 156) #[] #[],.func (.func 124) #[] #[],.func (.func 157) #[] #[]] 37);have O:=a8 U D;refine(cD g [(⟨156,#[]⟩,(cC F)),(⟨124,#[]⟩,(ld F)),(⟨157,#[]⟩,F.block)] 2 v1 (aG aO (Nd.mk 2 nt nl np)) _ _ 3 rfl (by omega) (gg.out.below D) HD.out.named (eQ.new _ rfl (au.new w1 _ _)) (yd (((sa g F HF.out).le fun _=>lW.succ).so r9 _ (dk.below M.out D)) (((DG g F HF.out).le fun _=>lW.succ).so DF _ (dk.below M.out D)) (HF.out.block.so nd _ (dk.below M.out D)))).mono ?_;rintro e w2⟨rfl,J⟩;have ge:=a8 O J;have gj:=hid (dk.below (dk.below M.out D) J);clear D O;clear J;(go_wp2_with fail);go_ret;exact⟨by rw[HE.out];rfl,ge⟩
 by_cases gb:nk=3
 ·subst gb;clear ga;have HE:=hid (show f8 F (Nd.mk 3 nt nl np)=fc 3 [cC F,dv (dv F.typ (cK F)) (ct F)] (aG aO (Nd.mk 3 nt nl np))from rfl);(go_enter Tryz.func120,Tryz.ntmps120);(go_wp2_with fail);refine(df _ _ (Nd.mk 3 nt nl np) HV.out ⟨118,#[]⟩ aO (mS _) HD.out.txt).mono ?_;rintro e w1⟨v1,rfl,N,I⟩;have U:=a8 hB I;have M:=hid (dk.below HT.out I);have gg:=hid N;clear I N;(go_wp2_with fail);refine(iK g F.typ (cK F) ⟨121,#[]⟩ ⟨159,#[]⟩ _ (HF.out.typ.so lM _ M.out) (((E5 g F HF.out).le fun _=>lW.succ).so E4 _ M.out)).mono ?_;rintro e w2⟨h1,rfl,gl,J⟩;have ge:=a8 U J;have gj:=hid (dk.below M.out J);have gt:=hid (gg.out.below J);have gn:=hid gl;clear J gl;(go_wp2_with fail);refine(iK g (dv F.typ (cK F)) (ct F) h1 ⟨160,#[]⟩ _ (gn.out) (((F2 g F HF.out).le fun _=>lW.succ).so AZ _ gj.out)).mono ?_;rintro e w3⟨h2,rfl,gk,gd⟩;have gv:=a8 ge gd;have gr:=hid (dk.below gj.out gd);have gw:=hid (gn.out.below gd);have gs:=hid (gt.out.below gd);have gq:=hid gk;clear gd gk;(go_wp2_with fail);have h:=(gG w3.heap.size w3).alloc (d5 _) (.cells #[.func (.func 156) #[] #[],.func (.func h2.k) #[] h2.cap] 37);have gm:=a8 gv h;refine(cD g [(⟨156,#[]⟩,(cC F)),(h2,(dv (dv F.typ (cK F)) (ct F)))] 3 v1 (aG aO (Nd.mk 3 nt nl np)) _ _ 2 rfl (by omega) (gs.out.below h) HD.out.named (eQ.new _ rfl (au.new w3 _ _)) (my (((sa g F HF.out).le fun _=>lW.succ).so r9 _ (dk.below gr.out h)) (gq.out.below h))).mono ?_;rintro e w4⟨rfl,gp⟩;have gu:=a8 gm gp;have gy:=hid (dk.below (dk.below gr.out h) gp);clear h gm;clear gp;(go_wp2_with fail);go_ret;exact⟨by rw[HE.out];rfl,gu⟩
 by_cases gh:nk=4
 ·subst gh;clear ga gb;have HE:=hid (show f8 F (Nd.mk 4 nt nl np)=fc 4 [cC F,F.typ] (aG aO (Nd.mk 4 nt nl np))from rfl);(go_enter Tryz.func120,Tryz.ntmps120);(go_wp2_with fail);refine(df _ _ (Nd.mk 4 nt nl np) HV.out ⟨118,#[]⟩ aO (mS _) HD.out.txt).mono ?_;rintro e w1⟨v1,rfl,N,I⟩;have U:=a8 hB I;have M:=hid (dk.below HT.out I);have gg:=hid N;clear I N;(go_wp2_with fail);have D:=(gG w1.heap.size w1).alloc (d5 _) (.cells #[.func (.func 156) #[] #[],.func (.func 121) #[] #[]] 37);have O:=a8 U D;refine(cD g [(⟨156,#[]⟩,(cC F)),(⟨121,#[]⟩,F.typ)] 4 v1 (aG aO (Nd.mk 4 nt nl np)) _ _ 2 rfl (by omega) (gg.out.below D) HD.out.named (eQ.new _ rfl (au.new w1 _ _)) (my (((sa g F HF.out).le fun _=>lW.succ).so r9 _ (dk.below M.out D)) (HF.out.typ.so lM _ (dk.below M.out D)))).mono ?_;rintro e w2⟨rfl,J⟩;have ge:=a8 O J;have gj:=hid (dk.below (dk.below M.out D) J);clear D O;clear J;(go_wp2_with fail);go_ret;exact⟨by rw[HE.out];rfl,ge⟩
 have HE:=hid (show f8 F (Nd.mk nk nt nl np)=oU F (Nd.mk nk nt nl np)by unfold f8;simp only[Nd.kind_mk,ga,gb,gh,jY]);(have t2:(nk==2)=false:=by simpa using ga);(have t3:(nk==3)=false:=by simpa using gb);(have t4:(nk==4)=false:=by simpa using gh);clear ga gb gh;(go_enter Tryz.func120,Tryz.ntmps120);(go_wp2_with fail);refine(F3 g F HF.out _ _ (Nd.mk nk nt nl np) HT.out HV.out HD.out).mono ?_;rintro e w1⟨rfl,I⟩;have U:=a8 hB I;clear I;(go_wp2_with fail);go_ret;exact⟨by rw[HE.out];rfl,U⟩
theorem Sb:Tryz.prog.underlying 22=some (.slice (Tryz.prog.elem 22)):=by kernel_rfl
theorem Pl:Tryz.prog.elem 22=24:=by kernel_rfl
theorem Sc(w:World):(sizeOf (Tryz.prog.elem 22)).run Tryz.prog w=.ok 4 w:=by rw[Pl];exact Tryz.sizeOf24 w
theorem fU.tail{X:Nat->Prop}{w:World}{A:Option Addr}{n c:Nat}{xs:List Value}(h:fU X w 4 A n xs)(J:1<=n)(hc:n<=c):fU X w 4 (if c=1 then A else A.map (·.add 4)) (n-1) (xs.drop 4):=by
 refine⟨by rw[gR,h.1];omega,fun I=>?_⟩;obtain⟨b,off,rfl,hb,D⟩:=h.2 (by omega);rw[gA (by omega)];refine⟨b,off+4,by simp[Addr.add],hb,fun j u hu=>?_⟩;rw[kY]at hu;have:=D _ u hu
 rwa [<-Nat.add_assoc]at this
theorem DH(A:Option Addr)(q c:Nat)(M:1<=q)(D:q<=c):∃A',(∀W:World,(Instr.slice 22 (.slice A q c) (some (.int .i64 1)) none none).run Tryz.prog W=.ok (.slice A' (q-1) (c-1)) W) /\
  ∀(X:Nat->Prop)(w:World)(l:List Nd),dG X w (.slice A q c) l->dG X w (.slice A' (q-1) (c-1)) (l.drop 1):=by
 refine⟨if c=1 then A else A.map (·.add 4),fun W=>?_,fun X w l h=>?_⟩
 ·rw[run_slice_l (P:=Tryz.prog) W 22 A q c Sb .i64 1 (by omega) (by omega),Sc];simp[Result.andThen,sliced]
 ·obtain⟨O,c1,xs,e,N,J,I⟩:=h;injection e with e1 e2 e3;subst e1 e2 e3;refine⟨_,c-1,xs.drop 4,by rw[gR],by rw[gR];omega,?_,?_⟩
  ·rw[gR];exact J.tail M D
  ·have:=(I.split 1).2;simpa using this
theorem Mc(a:Array Value)(w:World):(callFunc 168 a).run Tryz.prog w=.ok (.enter 168 a) w:=by kernel_rfl
theorem F4(a b:Int):(a != b)=decide (a≠b):=by rw[qb];simp
theorem Sd(g:Nat)(F:dM)(hF:te g F):iU g (f9 F) 168:=by
 intro w v n hT hv hd;have I:=hv;obtain⟨A,cp,rfl,hC⟩:=hv.toC;have hB:=(aH w (nv n A cp)).1;have h:=(aH w (nv n A cp)).2;have HI:=hid (hF.expr _ _ n (hT.below hB) (I.below hB) hd);have HJ:=hid (fun w'(hb:Below (w.alloc (.cells (nv n A cp) 24)).heap.size (w.alloc (.cells (nv n A cp) 24)) w')=>hF.typ _ _ n ((hT.below hB).below hb) ((I.below hB).below hb) hd);(have hE:f9 F n=(F.expr n||((n.kind != 10)&&F.typ n)):=by unfold f9;rw[F4]);rw[hE];clear hE I hv hC hT hF hd;generalize hq1:F.expr n=q1 at *;generalize F.typ n=q2 at *;clear hq1;(go_enter Tryz.func168,Tryz.ntmps168);(go_wp2_with fail);refine HI.out.mono ?_;rintro e w1⟨rfl,D⟩;have J:=a8 hB D;cases q1 with
 |true=>clear D;(go_wp2_with fail);go_ret;exact⟨rfl,J⟩
 |false=>
  obtain⟨x0,x1,x2,x3,_,_,_,_⟩:=ag (h.below D (by simp));have O:=hid (HJ.out w1 D);clear D HJ HI h;cases U:(n.kind != 10)with
  |false=>(go_wp2_with fail);go_ret;exact⟨by rw[U];rfl,J⟩
  |true=>(go_wp2_with fail);refine O.out.mono ?_;rintro e w2⟨rfl,M⟩;have N:=a8 J M;clear M;(go_wp2_with fail);go_ret;exact⟨by rw[U];rfl,N⟩
theorem Md(g:Nat)(F:dM)(hF:te g F):iU (g+1) (dc F) 122:=by
 intro w v n hT hv hd;obtain⟨nk,nt,nl,np⟩:=n;have gw:=hv;obtain⟨A,cp,rfl,hC⟩:=hv.toC;simp only[Nd.kind_mk,Nd.text_mk,Nd.kids_mk,Nd.pos_mk]at gw |-;have hB:=(aH w #[.int .i64 nk,.string nt,.slice A nl.length cp,.int .i64 np]).1;have b1:=(aH w #[.int .i64 nk,.string nt,.slice A nl.length cp,.int .i64 np]).2;have HV:=hid (gw.below hB);have g2:=hid gw;have HT:=hid (hT.below hB);have HF:=hid hF;have HD:=hid hd;clear gw hv hC hT hF hd;by_cases M:nk=16
 ·subst M;have HE:=hid (show dc F (Nd.mk 16 nt nl np)=fc 16 [] (aG iI (Nd.mk 16 nt nl np))from rfl);(go_enter Tryz.func122,Tryz.ntmps122);(go_wp2_with fail);refine(df _ _ (Nd.mk 16 nt nl np) HV.out ⟨164,#[]⟩ iI (Ly _) HD.out.txt).mono ?_;rintro e w1⟨v1,rfl,O,D⟩;have J:=a8 hB D;have ga:=hid (dk.below HT.out D);have gk:=hid O;clear D O;(go_wp2_with fail);refine(cD g [] 16 v1 (aG iI (Nd.mk 16 nt nl np)) none _ 0 rfl (by omega) gk.out HD.out.named (.inl ⟨rfl,rfl⟩) (fun x hx=>by cases hx)).mono ?_;rintro e w2⟨rfl,I⟩;have gd:=a8 J I;have gv:=hid (dk.below ga.out I);clear I;(go_wp2_with fail);go_ret;exact⟨by rw[HE.out];rfl,gd⟩
 by_cases U:nk=17
 ·subst U;clear M;have HE:=hid (show dc F (Nd.mk 17 nt nl np)=fc 17 [] (aG iS (Nd.mk 17 nt nl np))from rfl);(go_enter Tryz.func122,Tryz.ntmps122);(go_wp2_with fail);refine(df _ _ (Nd.mk 17 nt nl np) HV.out ⟨165,#[]⟩ iS (Lw _) HD.out.txt).mono ?_;rintro e w1⟨v1,rfl,O,D⟩;have J:=a8 hB D;have ga:=hid (dk.below HT.out D);have gk:=hid O;clear D O;(go_wp2_with fail);refine(cD g [] 17 v1 (aG iS (Nd.mk 17 nt nl np)) none _ 0 rfl (by omega) gk.out HD.out.named (.inl ⟨rfl,rfl⟩) (fun x hx=>by cases hx)).mono ?_;rintro e w2⟨rfl,I⟩;have gd:=a8 J I;have gv:=hid (dk.below ga.out I);clear I;(go_wp2_with fail);go_ret;exact⟨by rw[HE.out];rfl,gd⟩
 by_cases gb:nk=18
 ·subst gb;clear M U;have HE:=hid (show dc F (Nd.mk 18 nt nl np)=fc 18 [] (aG aO (Nd.mk 18 nt nl np))from rfl);(go_enter Tryz.func122,Tryz.ntmps122);(go_wp2_with fail);refine(df _ _ (Nd.mk 18 nt nl np) HV.out ⟨118,#[]⟩ aO (mS _) HD.out.txt).mono ?_;rintro e w1⟨v1,rfl,O,D⟩;have J:=a8 hB D;have ga:=hid (dk.below HT.out D);have gk:=hid O;clear D O;(go_wp2_with fail);refine(cD g [] 18 v1 (aG aO (Nd.mk 18 nt nl np)) none _ 0 rfl (by omega) gk.out HD.out.named (.inl ⟨rfl,rfl⟩) (fun x hx=>by cases hx)).mono ?_;rintro e w2⟨rfl,I⟩;have gd:=a8 J I;have gv:=hid (dk.below ga.out I);clear I;(go_wp2_with fail);go_ret;exact⟨by rw[HE.out];rfl,gd⟩
 by_cases ge:nk=19
 ·subst ge;clear M U gb;have HE:=hid (show dc F (Nd.mk 19 nt nl np)=fc 19 [F.expr] (aG ng (Nd.mk 19 nt nl np))from rfl);(go_enter Tryz.func122,Tryz.ntmps122);(go_wp2_with fail);refine(df _ _ (Nd.mk 19 nt nl np) HV.out ⟨166,#[]⟩ ng (Lx _) HD.out.txt).mono ?_;rintro e w1⟨v1,rfl,O,D⟩;have J:=a8 hB D;have ga:=hid (dk.below HT.out D);have gk:=hid O;clear D O;(go_wp2_with fail);have N:=(gG w1.heap.size w1).alloc (d5 _) (.cells #[.func (.func 122) #[] #[]] 37);have gh:=a8 J N;refine(cD g [(⟨122,#[]⟩,F.expr)] 19 v1 (aG ng (Nd.mk 19 nt nl np)) _ _ 1 rfl (by omega) (gk.out.below N) HD.out.named (eQ.new _ rfl (au.new w1 _ _)) (iV (HF.out.expr.so eg _ (dk.below ga.out N)))).mono ?_;rintro e w2⟨rfl,I⟩;have gd:=a8 gh I;have gv:=hid (dk.below (dk.below ga.out N) I);clear N gh;clear I;(go_wp2_with fail);go_ret;exact⟨by rw[HE.out];rfl,gd⟩
 by_cases gg:nk=20
 ·subst gg;clear M U gb ge;have HE:=hid (show dc F (Nd.mk 20 nt nl np)=fc 20 [F.expr,F.expr] (aG iu (Nd.mk 20 nt nl np))from rfl);(go_enter Tryz.func122,Tryz.ntmps122);(go_wp2_with fail);refine(df _ _ (Nd.mk 20 nt nl np) HV.out ⟨167,#[]⟩ iu (GU _ HT.out) HD.out.txt).mono ?_;rintro e w1⟨v1,rfl,O,D⟩;have J:=a8 hB D;have ga:=hid (dk.below HT.out D);have gk:=hid O;clear D O;(go_wp2_with fail);have N:=(gG w1.heap.size w1).alloc (d5 _) (.cells #[.func (.func 122) #[] #[],.func (.func 122) #[] #[]] 37);have gh:=a8 J N;refine(cD g [(⟨122,#[]⟩,F.expr),(⟨122,#[]⟩,F.expr)] 20 v1 (aG iu (Nd.mk 20 nt nl np)) _ _ 2 rfl (by omega) (gk.out.below N) HD.out.named (eQ.new _ rfl (au.new w1 _ _)) (my (HF.out.expr.so eg _ (dk.below ga.out N)) (HF.out.expr.so eg _ (dk.below ga.out N)))).mono ?_;rintro e w2⟨rfl,I⟩;have gd:=a8 gh I;have gv:=hid (dk.below (dk.below ga.out N) I);clear N gh;clear I;(go_wp2_with fail);go_ret;exact⟨by rw[HE.out];rfl,gd⟩
 by_cases gj:nk=21
 ·subst gj;clear M U gb ge gg;have HE:=hid (show dc F (Nd.mk 21 nt nl np)=(decide (nt=(⟨#[]⟩:BA))&&(decide (0<nl.length)&&nl.all F.expr))from rfl);have HI:=hid (lI g F.expr ⟨122,#[]⟩ A cp nl _ HV.out.kidsV HD.out.2 HD.out.1.1 (HF.out.expr.so eg _ HT.out));(have hE:dc F (Nd.mk 21 nt nl np)=(nt.toList.isEmpty&&(decide (0<nl.length)&&nl.all F.expr)):=by rw[HE.out,aK]);rw[hE];clear hE HE;generalize nl.all F.expr=q at *;cases h1:nt.toList.isEmpty<;>cases h2:decide (0<nl.length);all_goals
   (go_enter Tryz.func122,Tryz.ntmps122);(go_wp2_with fail);try
    refine HI.out.mono ?_
    rintro e w1⟨rfl,D⟩
    replace hB:=a8 hB D
    clear D
    go_wp2_with fail
   go_ret;exact⟨rfl,hB⟩
 by_cases gm:nk=22
 ·subst gm;clear M U gb ge gg gj;have HE:=hid (show dc F (Nd.mk 22 nt nl np)=(decide (nt=(⟨#[]⟩:BA))&&(decide (1<nl.length)&&(F.expr (nl.getD 0 bU)&&(nl.drop 1).all (f9 F))))from rfl);by_cases h1:nt.toList.isEmpty=true
  case neg=>(have gy:nt.toList.isEmpty=false:=by simpa using h1);clear h1;(go_enter Tryz.func122,Tryz.ntmps122);(go_wp2_with fail);go_ret;exact⟨by rw[HE.out,<-aK,gy];rfl,hB⟩
  by_cases h2:1<nl.length
  case neg=>(have gl:decide (1<nl.length)=false:=by simpa using h2);(have g5:decide ((1:Int)<(nl.length:Int))=false:=by simp;omega);clear h2;(go_enter Tryz.func122,Tryz.ntmps122);(go_wp2_with fail);go_ret;exact⟨by rw[HE.out,<-aK,h1,gl];rfl,hB⟩
  (have gl:decide (1<nl.length)=true:=by simpa using h2);(have g5:(1:Int)<(nl.length:Int):=by omega);(have gq:0<nl.length:=by omega);(have g3:(0:Int)<(nl.length:Int):=by omega);(have gt:nl.length<=cp:=by obtain⟨_,_,_,e,h,_⟩:=HV.out.kidsV;injection e with _ _ e3;rw[e3];exact h);obtain⟨A',g0,gi⟩:=DH A nl.length cp (by omega) gt;have gu:=hid (fun w'(hb:Below (w.alloc (.cells #[.int .i64 22,.string nt,.slice A nl.length cp,.int .i64 np] 24)).heap.size (w.alloc (.cells #[.int .i64 22,.string nt,.slice A nl.length cp,.int .i64 np] 24)) w')=>gi _ w' nl (HV.out.below hb).kidsV);obtain⟨-,b,off,A1,g6,rfl,g4,k0,k1,k2,k3,gn⟩:=nh.at_ g2.out.kidsV 0 gq;(have g1:b≠w.heap.size:=by omega);simp only[Nd.kids_mk,kE,jP]at k0 k1 k2 k3 gn;have K0:=hid (show nl.getD 0 bU=nl[0]by simp[gq]);have HM:=hid (jC gq);generalize nl[0]=y0 at *;have HX:=hid (HF.out.expr _ _ y0 HT.out (gn.below hB) (HD.out.2 y0 HM.out));have HP:=hid (fun w'(hb:Below (w.alloc (.cells #[.int .i64 22,.string nt,.slice (some ⟨b,off,none⟩) nl.length cp,.int .i64 np] 24)).heap.size (w.alloc (.cells #[.int .i64 22,.string nt,.slice (some ⟨b,off,none⟩) nl.length cp,.int .i64 np] 24)) w')=>lI g (f9 F) ⟨168,#[]⟩ A' (cp-1) (nl.drop 1) w' (by rw[gR];exact gu.out w' hb) (fun x hx=>HD.out.2 x (qR hx)) (by have:=HD.out.1.1;simp at this |-;omega) ((Sd g F HF.out).so Mc _ (HT.out.below hb)));rw[gR]at HP;clear gn gu gi h2 gt;(go_enter Tryz.func122,Tryz.ntmps122);(go_wp2_with fail);refine HX.out.mono ?_;rintro e w1⟨rfl,D⟩;have J:=a8 hB D;cases hx:F.expr y0 with
  |false=>clear D;(go_wp2_with fail);go_ret;exact⟨by rw[HE.out,<-aK,h1,gl,K0.out,hx];rfl,J⟩
  |true=>obtain⟨x0,x1,x2,x3,_,_,_,_⟩:=ag (b1.below D (by simp));have gz:=hid (HP.out w1 D);clear D HP k0 k1 k2 k3 HX;(go_wp2_with fail);refine gz.out.mono ?_;rintro e w2⟨rfl,I⟩;have gd:=a8 J I;clear I;(go_wp2_with fail);go_ret;exact⟨by rw[HE.out,<-aK,h1,gl,K0.out,hx,List.drop_one];rfl,gd⟩
 by_cases gp:nk=23
 ·subst gp;clear M U gb ge gg gj gm;have HE:=hid (show dc F (Nd.mk 23 nt nl np)=fc 23 [F.expr] (aG aO (Nd.mk 23 nt nl np))from rfl);(go_enter Tryz.func122,Tryz.ntmps122);(go_wp2_with fail);refine(df _ _ (Nd.mk 23 nt nl np) HV.out ⟨118,#[]⟩ aO (mS _) HD.out.txt).mono ?_;rintro e w1⟨v1,rfl,O,D⟩;have J:=a8 hB D;have ga:=hid (dk.below HT.out D);have gk:=hid O;clear D O;(go_wp2_with fail);have N:=(gG w1.heap.size w1).alloc (d5 _) (.cells #[.func (.func 122) #[] #[]] 37);have gh:=a8 J N;refine(cD g [(⟨122,#[]⟩,F.expr)] 23 v1 (aG aO (Nd.mk 23 nt nl np)) _ _ 1 rfl (by omega) (gk.out.below N) HD.out.named (eQ.new _ rfl (au.new w1 _ _)) (iV (HF.out.expr.so eg _ (dk.below ga.out N)))).mono ?_;rintro e w2⟨rfl,I⟩;have gd:=a8 gh I;have gv:=hid (dk.below (dk.below ga.out N) I);clear N gh;clear I;(go_wp2_with fail);go_ret;exact⟨by rw[HE.out];rfl,gd⟩
 by_cases gr:nk=24
 ·subst gr;clear M U gb ge gg gj gm gp;have HE:=hid (show dc F (Nd.mk 24 nt nl np)=(decide (nt=(⟨#[]⟩:BA))&&(decide (0<nl.length)&&(decide ((nl.getD 0 bU).kind≠12)&&(F.typ (nl.getD 0 bU)&&(nl.drop 1).all F.expr))))from rfl);by_cases h1:nt.toList.isEmpty=true
  case neg=>(have gy:nt.toList.isEmpty=false:=by simpa using h1);clear h1;(go_enter Tryz.func122,Tryz.ntmps122);(go_wp2_with fail);go_ret;exact⟨by rw[HE.out,<-aK,gy];rfl,hB⟩
  by_cases h2:0<nl.length
  case neg=>(have gl:decide (0<nl.length)=false:=by simpa using h2);clear h2;(go_enter Tryz.func122,Tryz.ntmps122);(go_wp2_with fail);go_ret;exact⟨by rw[HE.out,<-aK,h1,gl];rfl,hB⟩
  (have gl:decide (0<nl.length)=true:=by simpa using h2);have gq:0<nl.length:=h2;(have g3:(0:Int)<(nl.length:Int):=by omega);(have gt:nl.length<=cp:=by obtain⟨_,_,_,e,h,_⟩:=HV.out.kidsV;injection e with _ _ e3;rw[e3];exact h);obtain⟨A',g0,gi⟩:=DH A nl.length cp (by omega) gt;have gu:=hid (fun w'(hb:Below (w.alloc (.cells #[.int .i64 24,.string nt,.slice A nl.length cp,.int .i64 np] 24)).heap.size (w.alloc (.cells #[.int .i64 24,.string nt,.slice A nl.length cp,.int .i64 np] 24)) w')=>gi _ w' nl (HV.out.below hb).kidsV);obtain⟨-,b,off,A1,g6,rfl,g4,k0,k1,k2,k3,gn⟩:=nh.at_ g2.out.kidsV 0 gq;(have g1:b≠w.heap.size:=by omega);simp only[Nd.kids_mk,kE,jP]at k0 k1 k2 k3 gn;have K0:=hid (show nl.getD 0 bU=nl[0]by simp[gq]);have HM:=hid (jC gq);generalize nl[0]=y0 at *;have hj:=hid gn;have HX:=hid (HF.out.typ _ _ y0 HT.out (gn.below hB) (HD.out.2 y0 HM.out));have HP:=hid (fun w'(hb:Below (w.alloc (.cells #[.int .i64 24,.string nt,.slice (some ⟨b,off,none⟩) nl.length cp,.int .i64 np] 24)).heap.size (w.alloc (.cells #[.int .i64 24,.string nt,.slice (some ⟨b,off,none⟩) nl.length cp,.int .i64 np] 24)) w')=>lI g F.expr ⟨122,#[]⟩ A' (cp-1) (nl.drop 1) w' (by rw[gR];exact gu.out w' hb) (fun x hx=>HD.out.2 x (qR hx)) (by have:=HD.out.1.1;simp at this |-;omega) (HF.out.expr.so eg _ (HT.out.below hb)));rw[gR]at HP;clear gn gu gi h2 gt;(have hk:decide (y0.kind≠12)=(y0.kind != 12):=by rw[F4]);have HK:=hid hk;clear hk;cases h3:(y0.kind != 12)with
  |false=>(go_enter Tryz.func122,Tryz.ntmps122);(go_wp2_with fail);go_ret;exact⟨by rw[HE.out,<-aK,h1,gl,K0.out,HK.out,h3];rfl,hB⟩
  |true=>
   (go_enter Tryz.func122,Tryz.ntmps122);(go_wp2_with fail);refine HX.out.mono ?_;rintro e w1⟨rfl,D⟩;have J:=a8 hB D;cases hx:F.typ y0 with
   |false=>clear D;(go_wp2_with fail);go_ret;exact⟨by rw[HE.out,<-aK,h1,gl,K0.out,HK.out,h3,hx];rfl,J⟩
   |true=>obtain⟨x0,x1,x2,x3,_,_,_,_⟩:=ag (b1.below D (by simp));have gz:=hid (HP.out w1 D);clear D HP k0 k1 k2 k3 HX;(go_wp2_with fail);refine gz.out.mono ?_;rintro e w2⟨rfl,I⟩;have gd:=a8 J I;clear I;(go_wp2_with fail);go_ret;exact⟨by rw[HE.out,<-aK,h1,gl,K0.out,HK.out,h3,hx,List.drop_one];rfl,gd⟩
 have HE:=hid (show dc F (Nd.mk nk nt nl np)=fc 25 [ld F,F.block] (Nd.mk nk nt nl np)by unfold dc;simp only[Nd.kind_mk,M,U,gb,ge,gg,gj,gm,gp,gr,jY]);(have hi:(nk==16)=false:=by simpa using M);(have hh:(nk==17)=false:=by simpa using U);(have hg:(nk==18)=false:=by simpa using gb);(have hf:(nk==19)=false:=by simpa using ge);(have he:(nk==20)=false:=by simpa using gg);(have ha:(nk==21)=false:=by simpa using gj);(have g9:(nk==22)=false:=by simpa using gm);(have g8:(nk==23)=false:=by simpa using gp);(have g7:(nk==24)=false:=by simpa using gr);clear M U gb ge gg gj gm gp gr;(go_enter Tryz.func122,Tryz.ntmps122);(go_wp2_with fail);have gs:=(gG (w.alloc (.cells #[.int .i64 nk,.string nt,.slice A nl.length cp,.int .i64 np] 24)).heap.size (w.alloc (.cells #[.int .i64 nk,.string nt,.slice A nl.length cp,.int .i64 np] 24))).alloc (d5 _) (.cells #[.func (.func 124) #[] #[],.func (.func 157) #[] #[]] 37);have gx:=a8 hB gs;refine(cD g [(⟨124,#[]⟩,(ld F)),(⟨157,#[]⟩,F.block)] 25 _ ((Nd.mk nk nt nl np)) _ _ 2 rfl (by omega) (HV.out.below gs) HD.out (eQ.new _ rfl (au.new_at (n:=w.heap.size+1) (by simp) _ _)) (my (((DG g F HF.out).le fun _=>lW.succ).so DF _ (dk.below HT.out gs)) (HF.out.block.so nd _ (dk.below HT.out gs)))).mono ?_;rintro e w1⟨rfl,D⟩;have J:=a8 gx D;have ga:=hid (dk.below (dk.below HT.out gs) D);clear gs gx;clear D;(go_wp2_with fail);go_ret;exact⟨by rw[HE.out];rfl,J⟩
end
end Go.Proofs.YtiebcdeafofgdaaGreatDoor
