/-
  Parts of the proof: Task Tplain Tsig Tdecl Tparam. By an AI agent.
-/
import Derived.Test.YteialcjaiocjdaaGreatDoorJ09
import Derived.Laws.EntriesVeiled
open Go.Proofs.Tryz
set_option maxRecDepth 100000
set_option maxHeartbeats 8000000
namespace Go.Proofs.YteialcjaiocjdaaGreatDoor
section
open Go.RowKit Go.Lib Go.Proofs
attribute [local go_sem ↓] Go.wp_at_zero Go.wp_at_succ
theorem gK:type_of% @decide_eq_false_iff_not:=@decide_eq_false_iff_not
theorem qD:type_of% @Bool.not_eq_true':=@Bool.not_eq_true'
theorem vc:type_of% @bne_iff_ne:=@bne_iff_ne
theorem cy(s:ByteArray)(l:List UInt8):decide (s=⟨l.toArray⟩)=(s.toList==l):=by rw[<-cz,qw ⟨l.toArray⟩]
theorem fk(s sub:ByteArray)(w:World)(I:dw w)(hs:s.size<=2000000000):
  Calls prog 66 #[s,sub] w fun e w'=>e=.returned (.bool (Lib.contains s.data.toList sub.data.toList))/\w=w':=by obtain⟨m,D⟩:=I;exact(Any.strings_Contains Tryz.laysContains s sub m w (by omega) D).mono fun _ _ h=>⟨h.1,h.2.symm⟩
theorem O5(s sep:ByteArray)(w:World)(I:dw w)(hs:s.size<=2000000000):
  Calls prog 207 #[s,sep] w fun e w'=>e=.returned (.tuple #[.string ⟨(Lib.cut s.data.toList sep.data.toList).1.toArray⟩,.string ⟨(Lib.cut s.data.toList sep.data.toList).2.1.toArray⟩,.bool (Lib.cut s.data.toList sep.data.toList).2.2])/\Below w w w':=by obtain⟨m,D⟩:=I;exact(Any.strings_Cut Tryz.laysCut s sep m w (by omega) D).mono fun _ _ h=>⟨h.1,by obtain⟨n,e⟩:=h.2;subst e;exact bK (gH _ _) n⟩
theorem sQ(s:ByteArray)(w:World):Calls prog 97 #[s] w fun e w'=>e=.returned (.bool (aB s))/\Below w w w':=by
 (have hE:aB s=(decide ((s.size:Int)<=100)&&dZ s):=by unfold aB;congr 1;rw[kV];omega);rw[hE];have I:=hid (Cd s w);generalize dZ s=q at *;clear hE;cases J:decide ((s.size:Int)<=100);all_goals
  (go_enter func97,ntmps97);go_wp2_with fail;try
   refine I.out.mono ?_
   rintro e w1⟨rfl,D⟩
   go_wp2_with fail
  go_ret;exact⟨rfl,by first|assumption|exact gH _ _⟩
theorem AR(s:ByteArray)(w:World):Calls prog 204 #[s] w fun e w'=>e=.returned (.bool (cj s))/\Below w w w':=by(have hE:cj s=(aB s && !(s.toList==[95])):=by unfold cj;rw[<-cy s [95],<-decide_not]);rw[hE];have I:=hid (sQ s w);generalize aB s=q at *;clear hE;cases q<;>cases J:(s.toList==[95]);all_goals(go_enter func204,ntmps204);go_wp2_with fail;refine I.out.mono ?_;rintro e w1⟨rfl,D⟩;go_wp2_with fail;go_ret;exact⟨rfl,D⟩
theorem nd{P:ByteArray->Bool}{f:FuncId}(D:∀a w,(callFunc f a).run prog w=.ok (.enter f a) w)(w0:World)
  (h:∀(s:ByteArray)(w:World),Below w0 w0 w->s.size<=1000000000->Calls prog f #[s] w fun e w'=>e=.returned (.bool (P s))/\Below w w w'):Cb P ⟨f,#[]⟩ w0:=
 ⟨D,fun w s hb hs=>h s w hb hs⟩
theorem mf(w0:World):Cb aB ⟨97,#[]⟩ w0:=nd (fun a w=>by kernel_rfl) w0 fun s w _ _=>sQ s w
theorem Ll(w0:World):Cb cj ⟨204,#[]⟩ w0:=nd (fun a w=>by kernel_rfl) w0 fun s w _ _=>AR s w
theorem GB(w0:World):Cb ec ⟨151,#[]⟩ w0:=nd (fun a w=>by kernel_rfl) w0 fun s w _ _=>by(have hE:ec s=s.toList.isEmpty:=by unfold ec;rw[ao]);rw[hE];cases D:s.toList.isEmpty;all_goals(go_enter func151,ntmps151);go_wp2_with fail;go_ret;exact⟨rfl,gH _ _⟩
theorem Lm(w0:World):Cb im ⟨201,#[]⟩ w0:=nd (fun a w=>by kernel_rfl) w0 fun s w _ _=>by(have hE:im s=(s.toList.isEmpty||s.toList==[126]):=by unfold im;rw[ao,cy s [126]]);rw[hE];cases I:s.toList.isEmpty<;>cases D:(s.toList==[126]);all_goals(go_enter func201,ntmps201);go_wp2_with fail;go_ret;exact⟨rfl,gH _ _⟩
theorem Ln(w0:World):Cb ed ⟨153,#[]⟩ w0:=nd (fun a w=>by kernel_rfl) w0 fun s w _ _=>by(have hE:ed s=decide ((s.size:Int)<=1000):=by unfold ed;rw[kV];omega);rw[hE];(go_enter func153,ntmps153);go_wp2_with fail;go_ret;exact⟨rfl,gH _ _⟩
theorem Lo(w0:World):Cb fw ⟨154,#[]⟩ w0:=nd (fun a w=>by kernel_rfl) w0 fun s w _ _=>by(have hE:fw s=(s.toList==[45]||s.toList==[33]):=by unfold fw;rw[cy s [45],cy s [33]]);rw[hE];cases I:(s.toList==[45])<;>cases D:(s.toList==[33]);all_goals(go_enter func154,ntmps154);go_wp2_with fail;go_ret;exact⟨rfl,gH _ _⟩
theorem O6(w0:World):Cb ix ⟨205,#[]⟩ w0:=nd (fun a w=>by kernel_rfl) w0 fun s w _ _=>by(have hE:ix s=(s.toList==[43,43]||s.toList==[45,45]):=by unfold ix;rw[cy s [43,43],cy s [45,45]]);rw[hE];cases I:(s.toList==[43,43])<;>cases D:(s.toList==[45,45]);all_goals(go_enter func205,ntmps205);go_wp2_with fail;go_ret;exact⟨rfl,gH _ _⟩
theorem GC(x:ByteArray)(w:World)(D:dw w):
  Calls prog 66 #[.string ⟨#[32,43,32,45,32,42,32,47,32,37,32,61,61,32,33,61,32,60,32,60,61,32,62,32,62,61,32,38,38,32,124,124,32]⟩,.string x] w fun e w'=>e=.returned (.bool (Lib.contains (32::iw) x.data.toList))/\w=w':=
 fk _ x w D (jZ (show _<=100 by decide +kernel) (by omega))
theorem GD(w0:World)(O:dw w0):Cb eC ⟨155,#[]⟩ w0:=nd (fun a w=>by kernel_rfl) w0 fun s w hb hs=>by
 have M:=hid (O.below hb);(have hE:eC s=(!s.toList.isEmpty&&(!(Lib.contains s.data.toList [32])&&Lib.contains (32::iw) (32::(s.data.toList++[32])))):=by unfold eC;rw[ao,<-decide_not]);rw[hE];clear hE;have I:=hid (fk s ⟨#[32]⟩ w M.out (by omega));(have J:((⟨#[32]⟩++s++⟨#[32]⟩:ByteArray)).data.toList=32::(s.data.toList++[32]):=by simp[ByteArray.data_append]);have D:=GC (⟨#[32]⟩++s++⟨#[32]⟩) w M.out;rw[J]at D;generalize Lib.contains (32::iw) (32::(s.data.toList++[32]))=q2 at *;have U:=hid D;rw[show(⟨#[32]⟩:BA).data.toList=[32]from rfl]at I;clear D J;cases N:Lib.contains s.data.toList [32]<;>cases hE:s.toList.isEmpty;all_goals
  (go_enter func155,ntmps155);go_wp2_with fail;try
   refine I.out.mono ?_
   rw[N]
   rintro e w1⟨rfl,rfl⟩
   go_wp2_with fail
  try
   refine U.out.mono ?_
   rintro e w1⟨rfl,rfl⟩
   go_wp2_with fail
  go_ret;exact⟨rfl,gH _ _⟩
theorem GE(w0:World)(hT:dw w0):Cb bR ⟨163,#[]⟩ w0:=nd (fun a w=>by kernel_rfl) w0 fun s w hb hs=>by
 have HT:=hid (hT.below hb);have O:=hid (O5 s ⟨#[44]⟩ w HT.out (by omega));(have hE:bR s=(s.toList.isEmpty||(((fx s).2.2&&(aB ⟨(fx s).1.toArray⟩&&cj ⟨(fx s).2.1.toArray⟩))||(!(fx s).2.2&&cj ⟨(fx s).1.toArray⟩))):=by unfold bR;rw[ao]);rw[hE];clear hE;rw[show Lib.cut s.data.toList (⟨#[44]⟩:BA).data.toList=fx s from rfl]at O;generalize fx s=q at *;obtain⟨I,N,U⟩:=q;simp only at *;have h:=hid (fun w=>sQ ⟨I.toArray⟩ w);have M:=hid (fun w=>AR ⟨I.toArray⟩ w);have J:=hid (fun w=>AR ⟨N.toArray⟩ w);generalize aB ⟨I.toArray⟩=n1 at *;generalize cj ⟨I.toArray⟩=b1 at *;generalize cj ⟨N.toArray⟩=b2 at *;cases ga:s.toList.isEmpty<;>cases U<;>cases n1<;>cases b1<;>cases b2;all_goals
  (go_enter func163,ntmps163);go_wp2_with fail;refine O.out.mono ?_;rintro e w1⟨rfl,hB⟩;go_wp2_with (first
   |(go_at_call 97;with_reducible refine(h.out _).mono ?_;rintro e w2⟨rfl,D⟩;replace hB:=au hB D;clear D)
   |(go_at_call 204;with_reducible refine(J.out _).mono ?_;rintro e w2⟨rfl,D⟩;replace hB:=au hB D;clear D)
   |(go_at_call 204;with_reducible refine(M.out _).mono ?_;rintro e w2⟨rfl,D⟩;replace hB:=au hB D;clear D))
  go_ret;exact⟨rfl,hB⟩
theorem tG(l:List UInt8):l.all dY=true↔∀j,j<l.length->aC ((l.getD j 0).toNat:Int)=true:=by
 rw[qo];constructor
 ·intro h j D;have:=h l[j] (gS _);rw[fj]at this;simpa[D]using this
 ·intro h x hx;obtain⟨j,D,rfl⟩:=List.mem_iff_getElem.1 hx;have:=h j D;rw[fj];simpa[D]using this
theorem O7{s:ByteArray}(h:0<s.size):decide (s.data.toList.head? ≠ some 48)=((s[0].toNat:Int) != 48):=by(have e:s.data.toList.head? = some s[0]:=by rw[List.head?_eq_getElem?,gT (by simpa using h)];rfl);rw[e,kT];simp only[ne_eq,Option.some.injEq,decide_not,qD,gK,vc];rw[<-vt];simp only[UInt8.reduceToNat];omega
theorem GF(s:ByteArray)(w:World):Calls prog 152 #[s] w fun e w'=>e=.returned (.bool (cW s))/\Below w w w':=by
 have hT:cW s=(s.data.toList.all dY&&(s.toList==[48]||(!s.toList.isEmpty&&(decide ((s.size:Int)<=200)&&decide (s.data.toList.head? ≠ some 48))))):=by
  unfold cW;rw[ao,cy s [48]];congr 3
  ·simp
  ·congr 1;rw[kV];omega
 have hN:=tG s.data.toList;rw[hT];generalize s.data.toList.all dY=nc at *;have HN:=hid hN;clear hT hN;have i1:=qF w s 0;have i2:Below w w (w.iter s 0):=(gH _ w).alloc (gC _) _;(go_enter func152,ntmps152);go_wp2_with fail;go_loopg [4,7,8] s.size (fun g _ _ _ wr=>∃i:Nat,i<=s.size/\s.size-i<=g/\wr.heap[w.heap.size]? = some (.stringIter s i)/\Below w w wr/\(∀j,j<i->aC ((s.data.toList.getD j 0).toNat:Int)=true))
 case atStart=>exact⟨0,gQ _,by omega,i1,i2,fun j hj=>by omega⟩
 case round=>
  clear i1 i2;obtain⟨i,hi,hg,hit,hB,h⟩:=hrel;have gd:=hid hit;have HA:=hid h;clear hit h;by_cases J:i<s.size
  ·have hw:=ro s i J;have ga:=od s i J;have D:=fun ty=>qP (P:=prog) wr w.heap.size s i ty gd.out J;generalize hb:(s.data.toList.getD i 0).toNat=b at *;generalize hd:Utf8.decode s i=q at *;obtain⟨r,k⟩:=q;simp only at hw D ga;have U:aC (r:Int)=aC (b:Int)/\(aC (r:Int)=true->k=1):=by
    rcases ga with⟨e,_⟩|⟨h1,h2⟩
    ·injection e with e1 e2;subst e1 e2;exact⟨rfl,fun _=>rfl⟩
    ·rw[fo (by omega),fo (by omega)];exact⟨rfl,by simp⟩
   have I:=hid U;have ge:=hid hb;have j1:=iterAt_heap wr w.heap.size s i (i+k) gd.out;have j2:Below w w (wr.iterAt w.heap.size s (i+k)):=eD hB (gC _);generalize wr.iterAt w.heap.size s (i+k)=W1 at D j1 j2;have J1:=hid j1;clear U ga j1 hd hb;have O:aC (r:Int)=false->nc=false:=by
    intro hf;cases hn:nc with
    |false=>rfl
    |true=>have:=(HN.out.1 hn) i (by simpa using J);rw[ge.out,<-I.out.1,hf]at this;cases this
   have M:=hid O;have gg:aC (r:Int)=true->∀j,j<i+k->aC ((s.data.toList.getD j 0).toNat:Int)=true:=by
    intro hf j hj;have hk:=I.out.2 hf;by_cases e:j=i
    ·subst e;rw[ge.out,<-I.out.1,hf]
    ·exact HA.out j (by omega)
   have gj:=hid gg;clear O gg I ge HA;unfold aC at M gj;cases h1:decide ((r:Int)<48)with
   |true=>have HX:=hid (M.out (by(have:decide (48<=(r:Int))=false:=by simp at h1 |-;omega);rw[this];rfl));go_wp2_with fail;go_ret;exact⟨by rw[HX.out];rfl,j2⟩
   | false=>
    (have gb:decide (48<=(r:Int))=true:=by simp at h1 |-;omega);cases h2:decide (57<(r:Int))with
    |true=>have HX:=hid (M.out (by(have:decide ((r:Int)<=57)=false:=by simp at h2 |-;omega);rw[this];simp));clear gb;go_wp2_with fail;go_ret;exact⟨by rw[HX.out];rfl,j2⟩
    |false=>
     have gi:=hid (gj.out (by(have:decide ((r:Int)<=57)=true:=by simp at h2 |-;omega);rw[gb,this];rfl));clear gb;go_wp2_with fail;go_roundg (s.size-(i+k))
     case measure=>omega
     case rel=>exact⟨i+k,hw.2,gC _,J1.out,j2,gi.out⟩
  ·(have gh:i=s.size:=by omega);have D:=fun ty=>qQ (P:=prog) wr w.heap.size s i ty gd.out J;have HX:Hid (nc=true):=hid (HN.out.2 fun j hj=>HA.out j (by simp at hj;omega));clear gh;cases N:(s.toList==[48])with
   |true=>go_wp2_with fail;go_ret;exact⟨by rw[HX.out,N];rfl,hB⟩
   | false=>
    cases hE:s.toList.isEmpty with
    |true=>go_wp2_with fail;go_ret;exact⟨by rw[HX.out,N,hE];rfl,hB⟩
    | false=>
     cases hL:decide ((s.size:Int)<=200)with
     |false=>go_wp2_with fail;go_ret;exact⟨by rw[HX.out,N,hE,hL];rfl,hB⟩
     | true=>
      have hp:0<s.size:=by
       rcases kJ s.size with h0|h0
       ·(have:s.toList=[]:=by rw[qw];exact jS h0);rw[this]at hE;cases hE
       ·exact h0
      (have yk:(0:Int)<(s.size:Int):=by omega);go_wp2_with fail;go_ret;refine⟨?_,hB⟩;rw[HX.out,N,hE,hL,O7 hp];rfl
theorem Lp(w0:World):Cb cW ⟨152,#[]⟩ w0:=nd (fun a w=>by kernel_rfl) w0 fun s w _ _=>GF s w
structure sa(g:Nat)(F:cm):Prop where
 typ:iy g F.typ 100
 expr:iy g F.expr 101
 block:iy g F.block 145
 stmt:iy g F.stmt 102
 ifS:iy g F.ifS 161
theorem sa.pred{d:Nat}{F:cm}(h:sa (d+1) F):sa d F:=
 ⟨h.typ.le fun _=>df.succ,h.expr.le fun _=>df.succ,h.block.le fun _=>df.succ,h.stmt.le fun _=>df.succ,h.ifS.le fun _=>df.succ⟩
theorem ln(a:Array Value)(w:World):(callFunc 100 a).run prog w=.ok (.enter 100 a) w:=by kernel_rfl
theorem dV(a:Array Value)(w:World):(callFunc 101 a).run prog w=.ok (.enter 101 a) w:=by kernel_rfl
theorem mm(a:Array Value)(w:World):(callFunc 145 a).run prog w=.ok (.enter 145 a) w:=by kernel_rfl
theorem LK(a:Array Value)(w:World):(callFunc 102 a).run prog w=.ok (.enter 102 a) w:=by kernel_rfl
theorem Sl(a:Array Value)(w:World):(callFunc 161 a).run prog w=.ok (.enter 161 a) w:=by kernel_rfl
theorem GS(a:Array Value)(w:World):(callFunc 162 a).run prog w=.ok (.enter 162 a) w:=by kernel_rfl
theorem lW(d:Nat)(w0:World):ob d an ⟨162,#[]⟩ w0:=⟨GS,fun w v n _ hv _=>sO w v n hv⟩
theorem ei.new{w:World}{b:Nat}(fs:List (Fv×(Nd->Bool))){cs:Array Value}(D:cs=(fs.map fun x=>Value.func (.func x.1.k) #[] x.1.cap).toArray)(h:aq w b 39 cs):ei w (some ⟨b,0,none⟩) fs:=
 .inr ⟨b,rfl,by rw[<-D];exact h⟩
theorem LM(g:Nat)(F:cm)(hF:sa g F)(so:ByteArray->Bool)(f:Fv)(b:Nat)(w0:World)(hT:dw w0)(hs:Cb so f w0)(hb:aq w0 b 38 #[.func (.func f.k) #[] f.cap]):
  ob g (d4 F so) ⟨202,#[b]⟩ w0:=by
 refine⟨fun a w=>by kernel_rfl,fun w v n hw hv hd=>?_⟩;cases g with
 |zero=>exact hd.elim
 |succ d=>have N:=hv;obtain⟨A,cp,rfl,hC⟩:=hv.toC;have hB:=(aj w (nv n A cp)).1;have D:=hw.alloc hw.size (.cells (nv n A cp) 24);have ca:=ce (hb.bl D);have HN:=hid (cP _ _ n (N.below hB) f so (hs.below D) hd.txt);have HT:=hid (hT.below D);have HF:=hid hF;have HD:=hid hd;have ge:=hb.lt;have gd:=hw.size;show Calls _ _ _ w fun e w'=>e=.returned (.bool (cE 8 [F.typ] (aw so n)))/\_;clear N hv hC hb hs hT hF hd;(go_enter func202,ntmps202);go_wp2_with fail;refine HN.out.mono ?_;rintro e w1⟨v1,rfl,U,J⟩;have gb:=hid (HT.out.below J);have ga:=au hB J;clear J HN hB D ca HT;go_wp2_with fail;have I:=(gH w1.heap.size w1).alloc (gC _) (.cells #[.func (.func 100) #[] #[]] 39);have O:=au ga I;refine(cx d [(⟨100,#[]⟩,F.typ)] 8 v1 (aw so n) _ _ 1 rfl (by omega) (U.below I) HD.out.named (ei.new _ rfl (aq.new w1 _ _)) (by intro x hx;obtain rfl:=List.mem_singleton.1 hx;exact HF.out.pred.typ.so ln _ (gb.out.below I))).mono ?_;rintro e w2⟨rfl,M⟩;have h:=au O M;clear I M O;go_wp2_with fail;go_ret;exact⟨rfl,h⟩
theorem LN(g:Nat)(P:Nd->Bool)(f:Fv)(b:Nat)(w0:World)(hs:ob g P f w0)(hb:aq w0 b 39 #[.func (.func f.k) #[] f.cap]):
  ob g (iv P) ⟨203,#[b]⟩ w0:=by
 refine⟨fun a w=>by kernel_rfl,fun w v n hw hv hd=>?_⟩;cases g with
 |zero=>exact hd.elim
 |succ d=>have J:=hv;obtain⟨A,cp,rfl,h⟩:=hv.toC;have hB:=(aj w (nv n A cp)).1;have D:=hw.alloc hw.size (.cells (nv n A cp) 24);have ca:=ce (hb.bl D);have N:=hid (Cf d P f _ n _ (J.below hB) hd ⟨hs.enter,fun w' v' n' h1 h2 h3=>hs.out w' v' n' (au D h1) h2 h3.succ⟩);have U:=hb.lt;have O:=hw.size;clear J hv h hb hs hd;(go_enter func203,ntmps203);go_wp2_with fail;refine N.out.mono ?_;rintro e w1⟨rfl,I⟩;have M:=au hB I;clear I N hB;go_wp2_with fail;go_ret;exact⟨rfl,M⟩
theorem mi{w:World}{g:Nat}{t:TypeId}{a b c d:Value}(h:aq w g t #[a,b,c,d]):w.cell? ⟨g,0,none⟩=some a/\w.cell? ⟨g,1,none⟩=some b/\w.cell? ⟨g,2,none⟩=some c/\w.cell? ⟨g,3,none⟩=some d:=by obtain⟨M,J,I,D,_⟩:=ab h;exact⟨M,J,I,D⟩
theorem Cz{d:Nat}{w:World}{f g:Fv}{P Q:Nd->Bool}(I:ob d P f w)(D:ob d Q g w):∀x∈[(f,P),(g,Q)],ob d x.2 x.1 w:=by
 intro x hx;rcases List.mem_cons.1 hx with rfl|hx
 ·exact I
 ·obtain rfl:=List.mem_singleton.1 hx;exact D
theorem Fw(g:Nat)(F:cm)(hF:sa g F)(so:ByteArray->Bool)(f:Fv)(v:Value)(n:Nd)(w:World)(hT:dw w)(hv:aF w v n)(hd:df (g+1) n)(hs:Cb so f w):
  Calls prog 150 #[v,.func (.func f.k) #[] f.cap] w fun e w'=>e=.returned (.bool (il F so n))/\Below w w w':=by
 have N:=hv;obtain⟨A,cp,rfl,hC⟩:=hv.toC;have HV:=hid N;have HT:=hid hT;have HS:=hid hs;have HD:=hid hd;have HF:=hid hF;clear N hv hC hT hs hd hF;show Calls _ _ _ w fun e w'=>e=.returned (.bool (cE 12 [iv (d4 F so),ck an F.typ] n))/\_;(go_enter func150,ntmps150);go_wp2_with fail;have c0:aq (((w.alloc (.cells (nv n A cp) 24)).alloc (.cells #[.func (.func f.k) #[] f.cap] 38)).alloc (.cells #[.func (.func 202) #[] #[.pointer (some ⟨w.heap.size+1,0,none⟩)]] 39)) w.heap.size 24 (nv n A cp):=((aq.new w _ _).alloc _).alloc _;have c1:aq (((w.alloc (.cells (nv n A cp) 24)).alloc (.cells #[.func (.func f.k) #[] f.cap] 38)).alloc (.cells #[.func (.func 202) #[] #[.pointer (some ⟨w.heap.size+1,0,none⟩)]] 39)) (w.heap.size+1) 38 #[.func (.func f.k) #[] f.cap]:=(aq.new_at (by simp) _ _).alloc _;have c2:aq (((w.alloc (.cells (nv n A cp) 24)).alloc (.cells #[.func (.func f.k) #[] f.cap] 38)).alloc (.cells #[.func (.func 202) #[] #[.pointer (some ⟨w.heap.size+1,0,none⟩)]] 39)) (w.heap.size+1+1) 39 #[.func (.func 202) #[] #[.pointer (some ⟨w.heap.size+1,0,none⟩)]]:=aq.new_at (by simp) _ _;have hB:Below w w (((w.alloc (.cells (nv n A cp) 24)).alloc (.cells #[.func (.func f.k) #[] f.cap] 38)).alloc (.cells #[.func (.func 202) #[] #[.pointer (some ⟨w.heap.size+1,0,none⟩)]] 39)):=rk;generalize(((w.alloc (.cells (nv n A cp) 24)).alloc (.cells #[.func (.func f.k) #[] f.cap] 38)).alloc (.cells #[.func (.func 202) #[] #[.pointer (some ⟨w.heap.size+1,0,none⟩)]] 39))=W at *;have gb:=hid (HV.out.below hB);have U:=hid (HT.out.below hB);have HL:=hid (LN g (d4 F so) ⟨202,#[.pointer (some ⟨w.heap.size+1,0,none⟩)]⟩ (w.heap.size+1+1) W (LM g F HF.out so f _ W U.out (HS.out.below hB) c1) c2);have J:=c0.lt;have ge:=c2.lt;have I:Below W W W.drew:=(gH _ _).drew;have gd:=hid (U.out.below I);have O:=au hB I;have C0:=hid c0.drew;clear c1 c2 c0 hB HT HV HS;go_region_held3 (fun w'=>w'.cell? ⟨w,0,none⟩=some (.int .i64 n.kind)/\w'.cell? ⟨w,1,none⟩=some (.string n.text)/\w'.cell? ⟨w,2,none⟩=some (.slice A n.kids.length cp)/\w'.cell? ⟨w,3,none⟩=some (.int .i64 n.pos))
  (first|with_reducible exact mi q3|with_reducible exact mi (q2.alloc _)|with_reducible exact mi q2|with_reducible exact mi C0.out)
  (first
   |(go_at_call 146;refine(ip g an F.typ ⟨162,#[]⟩ ⟨100,#[]⟩ _ (lW g _) (HF.out.typ.so ln _ gd.out)).mono ?_;rintro e w2⟨h,rfl,ga,D⟩;have q2:=C0.out.below D J)
   |(go_at_call 142;refine(cx g [(⟨203,#[.pointer (some ⟨w.heap.size+1+1,0,none⟩)]⟩,iv (d4 F so)),(h,ck an F.typ)] 12 _ n _ _ 2 rfl (by omega) ((gb.out.below I).below (D.alloc D.size _)) HD.out (ei.new _ rfl (aq.new w2 _ _)) (Cz ((HL.out.below I).below (D.alloc D.size _)) (ga.below ((gH _ w2).alloc (gC _) _)))).mono ?_;rintro e w3⟨rfl,M⟩;have q3:=(q2.alloc _).below M (kK J (jZ D.size (by simp)))))
 (all_goals go_wp2_with fail);(all_goals go_ret);all_goals exact⟨rfl,(au O D).trans ((((gH _ w2).alloc (gC _) _).trans (M.mono (by simp))).mono (jZ O.size D.size))⟩
theorem iz{d:Nat}{w:World}{f:Fv}{P:Nd->Bool}(D:ob d P f w):∀x∈[(f,P)],ob d x.2 x.1 w:=by intro x hx;obtain rfl:=List.mem_singleton.1 hx;exact D
theorem lX{d:Nat}{w:World}{f g:Fv}{P Q:Nd->Bool}(I:ob d P f w)(D:ob d Q g w):∀x∈[(f,P),(g,Q)],ob d x.2 x.1 w:=Cz I D
theorem uO{d:Nat}{w:World}{f g h:Fv}{P Q R:Nd->Bool}(J:ob d P f w)(I:ob d Q g w)(D:ob d R h w):∀x∈[(f,P),(g,Q),(h,R)],ob d x.2 x.1 w:=by
 intro x hx;rcases List.mem_cons.1 hx with rfl|hx
 ·exact J
 ·exact lX I D x hx
theorem LO{d:Nat}{w:World}{f g h k:Fv}{P Q R S:Nd->Bool}(M:ob d P f w)(J:ob d Q g w)(I:ob d R h w)(D:ob d S k w):∀x∈[(f,P),(g,Q),(h,R),(k,S)],ob d x.2 x.1 w:=by
 intro x hx;rcases List.mem_cons.1 hx with rfl|hx
 ·exact M
 ·exact uO J I D x hx
theorem LP(a:Array Value)(w:World):(callFunc 200 a).run prog w=.ok (.enter 200 a) w:=by kernel_rfl
theorem GT(a:Array Value)(w:World):(callFunc 199 a).run prog w=.ok (.enter 199 a) w:=by kernel_rfl
theorem rA(a:Array Value)(w:World):(callFunc 144 a).run prog w=.ok (.enter 144 a) w:=by kernel_rfl
theorem CA(a:Array Value)(w:World):(callFunc 103 a).run prog w=.ok (.enter 103 a) w:=by kernel_rfl
theorem Ec(a:Array Value)(w:World):(callFunc 147 a).run prog w=.ok (.enter 147 a) w:=by kernel_rfl
theorem yX(a:Array Value)(w:World):(callFunc 148 a).run prog w=.ok (.enter 148 a) w:=by kernel_rfl
theorem Sm(g:Nat)(F:cm)(hF:sa g F):iy (g+1) (lh F) 200:=by intro w v n hT hv hd;have N:=hv;obtain⟨A,cp,rfl,hC⟩:=hv.toC;have hB:=(aj w (nv n A cp)).1;have b1:=(aj w (nv n A cp)).2;have HV:=hid (N.below hB);have gd:=hid N;have HT:=hid (hT.below hB);have HF:=hid hF;have HD:=hid hd;clear N hv hC hT hF hd;have HE:=hid (show lh F n=cE 15 [F.typ] (aw im n)from rfl);(go_enter func200,ntmps200);go_wp2_with fail;refine(cP _ _ n HV.out ⟨201,#[]⟩ im (Lm _) HD.out.txt).mono ?_;rintro e w1⟨v1,rfl,O,M⟩;have ga:=au hB M;have U:=hid (dw.below HT.out M);have gb:=hid O;clear M O;go_wp2_with fail;have D:=(gH w1.heap.size w1).alloc (gC _) (.cells #[.func (.func 100) #[] #[]] 39);have I:=au ga D;refine(cx g [(⟨100,#[]⟩,F.typ)] 15 v1 (aw im n) _ _ 1 rfl (by omega) (gb.out.below D) HD.out.named (ei.new _ rfl (aq.new w1 _ _)) (iz (HF.out.typ.so ln _ (dw.below U.out D)))).mono ?_;rintro e w2⟨rfl,J⟩;have h:=au I J;have ge:=hid (dw.below (dw.below U.out D) J);clear D I;clear J;go_wp2_with fail;go_ret;exact⟨by rw[HE.out];rfl,h⟩
theorem Pi(g:Nat)(F:cm)(hF:sa g F):iy (g+1) (io F) 199:=by intro w v n hT hv hd;have N:=hv;obtain⟨A,cp,rfl,hC⟩:=hv.toC;have hB:=(aj w (nv n A cp)).1;have b1:=(aj w (nv n A cp)).2;have HV:=hid (N.below hB);have gd:=hid N;have HT:=hid (hT.below hB);have HF:=hid hF;have HD:=hid hd;clear N hv hC hT hF hd;have HE:=hid (show io F n=cE 9 [F.typ] (aw aB n)from rfl);(go_enter func199,ntmps199);go_wp2_with fail;refine(cP _ _ n HV.out ⟨97,#[]⟩ aB (mf _) HD.out.txt).mono ?_;rintro e w1⟨v1,rfl,O,M⟩;have ga:=au hB M;have U:=hid (dw.below HT.out M);have gb:=hid O;clear M O;go_wp2_with fail;have D:=(gH w1.heap.size w1).alloc (gC _) (.cells #[.func (.func 100) #[] #[]] 39);have I:=au ga D;refine(cx g [(⟨100,#[]⟩,F.typ)] 9 v1 (aw aB n) _ _ 1 rfl (by omega) (gb.out.below D) HD.out.named (ei.new _ rfl (aq.new w1 _ _)) (iz (HF.out.typ.so ln _ (dw.below U.out D)))).mono ?_;rintro e w2⟨rfl,J⟩;have h:=au I J;have ge:=hid (dw.below (dw.below U.out D) J);clear D I;clear J;go_wp2_with fail;go_ret;exact⟨by rw[HE.out];rfl,h⟩
theorem Fx(g:Nat)(F:cm)(hF:sa g F):iy (g+1) (bo F) 148:=by
 intro w v n J hv hd;have D:=hv;obtain⟨A,cp,rfl,N⟩:=hv.toC;have hB:=(aj w (nv n A cp)).1;have b1:=(aj w (nv n A cp)).2;have U:=hid (D.below hB);have O:=hid D;have h:=hid (J.below hB);have HF:=hid hF;have M:=hid hd;clear D hv N J hF hd;have HI:=hid (lj g (lh F) ⟨200,#[]⟩ A cp n.kids _ U.out.kidsV M.out.2 M.out.1.1 (((Sm g F HF.out).le fun _=>df.succ).so LP _ h.out));(have hE:bo F n=((n.kind==14)&&(n.text.toList.isEmpty&&(decide (0<n.kids.length)&&n.kids.all (lh F)))):=by unfold bo;rw[ao,fZ]);rw[hE];clear hE;generalize n.kids.all (lh F)=q at *;cases h0:(n.kind==14)<;>cases h1:n.text.toList.isEmpty<;>cases h2:decide (0<n.kids.length);all_goals
  (go_enter func148,ntmps148);go_wp2_with fail;try
   refine HI.out.mono ?_
   rintro e w1⟨rfl,I⟩
   replace hB:=au hB I
   clear I
   go_wp2_with fail
  go_ret;exact⟨rfl,hB⟩
theorem Ed(g:Nat)(F:cm)(hF:sa g F):iy (g+1) (bE F) 147:=by
 intro w v n J hv hd;have D:=hv;obtain⟨A,cp,rfl,N⟩:=hv.toC;have hB:=(aj w (nv n A cp)).1;have b1:=(aj w (nv n A cp)).2;have U:=hid (D.below hB);have O:=hid D;have h:=hid (J.below hB);have HF:=hid hF;have M:=hid hd;clear D hv N J hF hd;have HI:=hid (lj g (io F) ⟨199,#[]⟩ A cp n.kids _ U.out.kidsV M.out.2 M.out.1.1 (((Pi g F HF.out).le fun _=>df.succ).so GT _ h.out));(have hE:bE F n=((n.kind==13)&&(n.text.toList.isEmpty&&n.kids.all (io F))):=by unfold bE;rw[ao,fZ]);rw[hE];clear hE;generalize n.kids.all (io F)=q at *;cases h0:(n.kind==13)<;>cases h1:n.text.toList.isEmpty;all_goals
  (go_enter func147,ntmps147);go_wp2_with fail;try
   refine HI.out.mono ?_
   rintro e w1⟨rfl,I⟩
   replace hB:=au hB I
   clear I
   go_wp2_with fail
  go_ret;exact⟨rfl,hB⟩
theorem CC(g:Nat)(F:cm)(hF:sa g F):iy (g+1) (er F) 103:=by intro w v n M hv hd;have D:=hv;obtain⟨A,cp,rfl,N⟩:=hv.toC;have hB:=(aj w (nv n A cp)).1;have b1:=(aj w (nv n A cp)).2;have U:=hid (D.below hB);have O:=hid D;have h:=hid (M.below hB);have HF:=hid hF;have HD:=hid hd;clear D hv N M hF hd;have HI:=hid (Fw g F HF.out aB ⟨97,#[]⟩ _ n _ h.out U.out HD.out (mf _));rw[show er F n=il F aB n from rfl];(go_enter func103,ntmps103);go_wp2_with fail;refine HI.out.mono ?_;rintro e w1⟨rfl,I⟩;have J:=au hB I;clear I;go_wp2_with fail;go_ret;exact⟨rfl,J⟩
theorem Sn(g:Nat)(F:cm)(hF:sa g F):iy (g+1) (dH F) 100:=by
 intro w v n hT hv hd;obtain⟨nk,nt,nl,np⟩:=n;have U:=hv;obtain⟨A,cp,rfl,hC⟩:=hv.toC;simp only[Nd.kind_mk,Nd.text_mk,Nd.kids_mk,Nd.pos_mk]at U |-;have hB:=(aj w #[.int .i64 nk,.string nt,.slice A nl.length cp,.int .i64 np]).1;have b1:=(aj w #[.int .i64 nk,.string nt,.slice A nl.length cp,.int .i64 np]).2;have HV:=hid (U.below hB);have gi:=hid U;have HT:=hid (hT.below hB);have HF:=hid hF;have HD:=hid hd;clear U hv hC hT hF hd;by_cases I:nk=10
 ·subst I;have HE:=hid (show dH F (Nd.mk 10 nt nl np)=(aB nt&&nl.all F.typ)from rfl);(go_enter func100,ntmps100);go_wp2_with fail;have HI:=hid (fun w'(hb:Below (w.alloc (.cells #[.int .i64 10,.string nt,.slice A nl.length cp,.int .i64 np] 24)).heap.size (w.alloc (.cells #[.int .i64 10,.string nt,.slice A nl.length cp,.int .i64 np] 24)) w')=>lj g F.typ ⟨100,#[]⟩ A cp nl _ (HV.out.below hb).kidsV HD.out.2 HD.out.1.1 (HF.out.typ.so ln _ (HT.out.below hb)));refine(sQ _ _).mono ?_;rintro e w1⟨rfl,D⟩;have N:=au hB D;have gd:=hid (HI.out _ D);obtain⟨x0,x1,x2,x3,_,_,_,_⟩:=ab (b1.below D (by simp));clear D HI;cases hq:aB nt with
  |false=>go_wp2_with fail;go_ret;exact⟨by rw[HE.out,hq];rfl,N⟩
  |true=>go_wp2_with fail;refine gd.out.mono ?_;rintro e w2⟨rfl,ga⟩;have gb:=au N ga;clear ga;go_wp2_with fail;go_ret;exact⟨by rw[HE.out,hq];rfl,gb⟩
 by_cases J:nk=11
 ·subst J;clear I;have HE:=hid (show dH F (Nd.mk 11 nt nl np)=cE 11 [F.typ] (Nd.mk 11 nt nl np)from rfl);(go_enter func100,ntmps100);go_wp2_with fail;have O:=(gH (w.alloc (.cells #[.int .i64 11,.string nt,.slice A nl.length cp,.int .i64 np] 24)).heap.size (w.alloc (.cells #[.int .i64 11,.string nt,.slice A nl.length cp,.int .i64 np] 24))).alloc (gC _) (.cells #[.func (.func 100) #[] #[]] 39);have h:=au hB O;refine(cx g [(⟨100,#[]⟩,F.typ)] 11 _ ((Nd.mk 11 nt nl np)) _ _ 1 rfl (by omega) (HV.out.below O) HD.out (ei.new _ rfl (aq.new_at (n:=w.heap.size+1) (by simp) _ _)) (iz (HF.out.typ.so ln _ (dw.below HT.out O)))).mono ?_;rintro e w1⟨rfl,D⟩;have N:=au h D;have gj:=hid (dw.below (dw.below HT.out O) D);clear O h;clear D;go_wp2_with fail;go_ret;exact⟨by rw[HE.out];rfl,N⟩
 by_cases M:nk=12
 ·subst M;clear I J;have HE:=hid (show dH F (Nd.mk 12 nt nl np)=il F ec (Nd.mk 12 nt nl np)from rfl);(go_enter func100,ntmps100);go_wp2_with fail;refine(Fw g F HF.out ec ⟨151,#[]⟩ _ (Nd.mk 12 nt nl np) _ HT.out HV.out HD.out (GB _)).mono ?_;rintro e w1⟨rfl,D⟩;have N:=au hB D;clear D;go_wp2_with fail;go_ret;exact⟨by rw[HE.out];rfl,N⟩
 have HE:Hid (dH F (Nd.mk nk nt nl np)=false):=hid (by unfold dH;simp only[Nd.kind_mk,I,J,M,jW]);(have gh:(nk==10)=false:=by simpa using I);(have gg:(nk==11)=false:=by simpa using J);(have ge:(nk==12)=false:=by simpa using M);clear I J M;(go_enter func100,ntmps100);go_wp2_with fail;go_ret;exact⟨by rw[HE.out];rfl,hB⟩
theorem Ee(a:Array Value)(w:World):(callFunc 195 a).run prog w=.ok (.enter 195 a) w:=by kernel_rfl
theorem LQ(g:Nat)(F:cm)(hF:sa g F):iy g (eS F) 195:=by
 intro w v n J hv hd;have I:=hv;obtain⟨A,cp,rfl,N⟩:=hv.toC;have hB:=(aj w #[n.kind,n.text,.slice A n.kids.length cp,n.pos]).1;have O:=hid (hF.typ _ _ n (J.below hB) (I.below hB) hd);(have hE:eS F n=(n.kind==10&&F.typ n):=by unfold eS;rw[fZ]);rw[hE];clear hE I hv N J hF hd;generalize F.typ n=q at *;generalize n.kind=k at *;cases M:(k==10);all_goals
  (go_enter func195,ntmps195);go_wp2_with fail;try
   rw[kO]at M
   subst M
   refine O.out.mono ?_
   rintro e w1⟨rfl,D⟩
   replace hB:=au hB D
   clear D
   go_wp2_with fail
  go_ret;exact⟨rfl,hB⟩
theorem uP{w:World}{g b:Nat}{t u:TypeId}{a0 a1 a2 a3 x:Value}(h:aq w g t #[a0,a1,a2,a3])(h':aq w b u #[x]):
  w.cell? ⟨g,0,none⟩=some a0/\w.cell? ⟨g,1,none⟩=some a1/\w.cell? ⟨g,2,none⟩=some a2/\w.cell? ⟨g,3,none⟩=some a3/\w.cell? ⟨b,0,none⟩=some x:=by obtain⟨M,J,I,D⟩:=mi h;exact⟨M,J,I,D,ce h'⟩
theorem GU(g:Nat)(F:cm)(hF:sa g F)(b:Nat)(w0:World)(hT:dw w0)(hb:aq w0 b 39 #[.func (.func 195) #[] #[]]):
  ob g (fE F) ⟨197,#[b]⟩ w0:=by
 refine⟨fun a w=>by kernel_rfl,fun w v n hw hv hd=>?_⟩;cases g with
 |zero=>exact hd.elim
 | succ d=>
  have U:=hv;obtain⟨A,cp,rfl,hC⟩:=hv.toC;have hB:=(aj w #[n.kind,n.text,.slice A n.kids.length cp,n.pos]).1;have M:=hw.alloc hw.size (.cells #[n.kind,n.text,.slice A n.kids.length cp,n.pos] 24);have c0:=(aj w #[n.kind,n.text,.slice A n.kids.length cp,n.pos]).2;have cb:=hb.bl M;have HV:=hid (U.below hB);have HT:=hid (hT.below M);have HF:=hid hF.pred;have HD:=hid hd;have gm:=hb.lt;have gl:=hw.size;show Calls _ _ _ w fun e w'=>e=.returned (.bool (cE 7 [ck (eS F) (bo F)] (aw aB n)))/\_;clear U hv hC hb hT hF hd M;(go_enter func197,ntmps197);go_wp2_with fail;generalize w.alloc (.cells #[n.kind,n.text,.slice A n.kids.length cp,n.pos] 24)=W at *;have N:Below W W W.drew:=(gH _ _).drew;have gg:=c0.lt;have ge:=cb.lt;have gi:=au hB N;have gj:=hid (HV.out.below N);have gk:=hid (HT.out.below N);have C0:=hid c0.drew;have CB:=hid cb.drew;clear c0 cb HV HT hB;go_region_held3 (fun w'=>w'.cell? ⟨w,0,none⟩=some (.int .i64 n.kind)/\w'.cell? ⟨w,1,none⟩=some (.string n.text)/\w'.cell? ⟨w,2,none⟩=some (.slice A n.kids.length cp)/\w'.cell? ⟨w,3,none⟩=some (.int .i64 n.pos)/\w'.cell? ⟨b,0,none⟩=some (.func (.func 195) #[] #[]))
   (first|with_reducible exact uP q4 r4|with_reducible exact uP (q3.alloc _) (r3.alloc _)|with_reducible exact uP q3 r3|with_reducible exact uP q2 r2|with_reducible exact uP C0.out CB.out)
   (first
    |(go_at_call 143;refine(cP _ _ n gj.out ⟨97,#[]⟩ aB (mf _) HD.out.txt).mono ?_;rintro e w2⟨v1,rfl,gb,I⟩;have q2:=C0.out.below I gg;have r2:=CB.out.below I ge;have ga:=hid (gk.out.below I))
    |(go_at_call 146;refine(ip d (eS F) (bo F) ⟨195,#[]⟩ ⟨148,#[]⟩ _ ((LQ d F HF.out).so Ee _ ga.out) (((Fx d F HF.out).le fun _=>df.succ).so yX _ ga.out)).mono ?_;rintro e w3⟨h,rfl,gd,D⟩;have q3:=q2.bl D;have r3:=r2.bl D)
    |(go_at_call 142;refine(cx d [(h,ck (eS F) (bo F))] 7 v1 (aw aB n) _ _ 1 rfl (by omega) ((gb.below D).below ((gH _ w3).alloc (gC _) _)) HD.out.named (ei.new _ rfl (aq.new w3 _ _)) (iz (gd.below ((gH _ w3).alloc (gC _) _)))).mono ?_;rintro e w4⟨rfl,O⟩;have q4:=(q3.alloc _).below O (q3.alloc _).lt;have r4:=(r3.alloc _).below O (r3.alloc _).lt))
  (all_goals go_wp2_with fail);(all_goals go_ret);all_goals have gh:=au gi I;have J:=au gh D;exact⟨rfl,(J.alloc J.size _).trans (O.mono (J.alloc J.size _).size)⟩
theorem rB(g:Nat)(F:cm)(hF:sa g F):iy (g+1) (bj F) 144:=by intro w v n M hv hd;have I:=hv;obtain⟨A,cp,rfl,O⟩:=hv.toC;have hB:=((gH w.heap.size w).alloc (gC _) (.cells #[n.kind,n.text,.slice A n.kids.length cp,n.pos] 24)).alloc (by simp) (.cells #[.func (.func 195) #[] #[]] 39);have N:aq ((w.alloc (.cells #[n.kind,n.text,.slice A n.kids.length cp,n.pos] 24)).alloc (.cells #[.func (.func 195) #[] #[]] 39)) (w.heap.size+1) 39 #[.func (.func 195) #[] #[]]:=aq.new_at (by simp) _ _;have U:=hid (Cf g (fE F) ⟨197,#[.pointer (some ⟨w.heap.size+1,0,none⟩)]⟩ _ n _ (I.below hB) hd (GU g F hF _ _ (M.below hB) N));show Calls _ _ _ w fun e w'=>e=.returned (.bool (iv (fE F) n))/\_;clear I hv O N M hF hd;(go_enter func144,ntmps144);go_wp2_with fail;refine U.out.mono ?_;rintro e w1⟨rfl,D⟩;have J:=au hB D;clear D;go_wp2_with fail;go_ret;exact⟨rfl,J⟩
end
end Go.Proofs.YteialcjaiocjdaaGreatDoor
