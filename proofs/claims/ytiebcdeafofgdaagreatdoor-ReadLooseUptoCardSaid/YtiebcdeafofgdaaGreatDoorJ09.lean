/-
  Parts of the proof: Tofk Task Tplain Tsig Tdecl. By an AI agent.
-/
import Derived.Test.YtiebcdeafofgdaaGreatDoorJ08
import Derived.Laws.EntriesVeiled
open Go.Proofs.Tryz
set_option maxRecDepth 100000
set_option maxHeartbeats 8000000
namespace Go.Proofs.YtiebcdeafofgdaaGreatDoor
section
open Go.RowKit Go.Lib Go.Proofs
attribute [local go_sem ↓] Go.wp_at_zero Go.wp_at_succ
theorem gJ:type_of% @decide_eq_false_iff_not:=@decide_eq_false_iff_not
theorem kZ:type_of% @bne_iff_ne:=@bne_iff_ne
theorem qv:type_of% @Bool.not_eq_true':=@Bool.not_eq_true'
theorem rg:∀(l:List (Nd->Bool))(ns:List Nd),l.length≠ns.length->aY l ns=false
 |[],[],h=>absurd rfl h
 |[],_::_,_=>rfl
 |_::_,[],_=>rfl
 |p::l,n::ns,h=>by rw[aY,rg l ns (by simpa using h)];simp
theorem BO(l:List (Nd->Bool))(ns:List Nd)(i:Nat)(I:i<l.length)(D:i<ns.length):aY (l.drop i) (ns.drop i)=(l[i] ns[i]&&aY (l.drop (i+1)) (ns.drop (i+1))):=by rw[jX I,jX D,aY]
def d9(w:World)(B:Option Addr)(fs:List (Fv×(Nd->Bool))):Prop:=
 (fs=[]/\B=none)\/∃b,B=some ⟨b,0,none⟩/\an w b 37 (fs.map fun x=>Value.func (.func x.1.k) #[] x.1.cap).toArray
theorem d9.below{w w':World}{B:Option Addr}{fs:List (Fv×(Nd->Bool))}(h:d9 w B fs)(hb:Below w w w'):d9 w' B fs:=by
 rcases h with h|⟨b,e,h⟩
 ·exact .inl h
 ·exact .inr ⟨b,e,h.bl hb⟩
theorem d9.get{w:World}{B:Option Addr}{fs:List (Fv×(Nd->Bool))}(h:d9 w B fs)(i:Nat)(D:i<fs.length):∃b,B=some ⟨b,0,none⟩/\b<w.heap.size/\w.cell? ⟨b,i,none⟩=some (.func (.func fs[i].1.k) #[] fs[i].1.cap):=by
 rcases h with⟨rfl,_⟩|⟨b,e,h⟩
 ·simp at D
 ·refine⟨b,e,h.lt,?_⟩;rw[h.cell i];simp[D]
theorem cj(d:Nat)(fs:List (Fv×(Nd->Bool)))(k:Int)(v:Value)(n:Nd)(B:Option Addr)(w:World)(m:Nat)(hm:fs.length=m)(gi:m<=9)
  (hv:aF w v n)(hd:dK (d+1) n)(hB:d9 w B fs)(hs:∀x∈fs,nP d x.2 x.1 w):
  Calls prog 154 #[v,k,.slice B m m] w fun e w'=>e=.returned (.bool (cA k (fs.map (·.2)) n))/\Below w w w':=by
 have gb:=hv;obtain⟨A,cp,rfl,hC⟩:=hv.toC;have J:=(aj w #[n.kind,n.text,.slice A n.kids.length cp,n.pos]).1;have b1:=(aj w #[n.kind,n.text,.slice A n.kids.length cp,n.pos]).2;have HK:=hid (af.kidsV (gb.below J));have HF:=hid (hB.below J);have HS:=hid (fun x hx=>(hs x hx).below J);have HM:=hid hm;have HD:=hid hd.2;have gg:=hd.1.1;have hE:cA k (fs.map (·.2)) n=(!(n.kind != k)&&(!(!n.text.toList.isEmpty)&&(!((n.kids.length:Int) != (m:Int))&&aY (fs.map (·.2)) n.kids))):=by
  unfold cA;rw[aq];by_cases h3:n.kids.length=m
  ·(have:((n.kids.length:Int) != (m:Int))=false:=by simp[h3]);rw[this];simp[bne,fH]
  ·(have h4:((n.kids.length:Int) != (m:Int))=true:=by simp;omega);rw[h4,rg (fs.map (·.2)) n.kids (by rw[jT];omega)];simp
 rw[hE];clear hE gb hv hC hd hB hs hm;generalize hI:aY (fs.map (·.2)) n.kids=I;have HI:=hid hI;clear hI;generalize n.kind=nk at *;generalize n.text=nt at *;generalize n.kids=ks at *;cases h1:(nk != k)with
 |true=>(go_enter func154,ntmps154);go_wp2_with fail;go_ret;exact⟨rfl,J⟩
 | false=>
  cases h2:nt.toList.isEmpty with
  |false=>(go_enter func154,ntmps154);go_wp2_with fail;go_ret;exact⟨rfl,J⟩
  | true=>
   cases h3:((ks.length:Int) != (m:Int))with
   |true=>(go_enter func154,ntmps154);go_wp2_with fail;go_ret;exact⟨rfl,J⟩
   | false=>
    have N:Hid (ks.length=m):=hid (by simp at h3;omega);(go_enter func154,ntmps154);go_wp2_with fail;clear h3;go_loopg [7,8,28] m (fun g _ _ u28 wr=>∃i:Nat,i<=m/\m-i<=g/\u28=.int .i64 (i:Int)/\aY ((fs.map (·.2)).drop i) (ks.drop i)=I/\Below (w.heap.size+1) (w.alloc (.cells #[.int .i64 nk,.string nt,.slice A ks.length cp,n.pos] 24)) wr)
    case atStart=>exact⟨0,gP _,by omega,rfl,by simpa using HI.out,gG _ _⟩
    case round=>
     obtain⟨i,hi,hg,rfl,hI,hB⟩:=hrel;have HI:=hid hI;have gd:=J.trans (hB.mono (by omega));have O:Hid (Below (w.alloc (.cells #[.int .i64 nk,.string nt,.slice A ks.length cp,n.pos] 24)).heap.size (w.alloc (.cells #[.int .i64 nk,.string nt,.slice A ks.length cp,n.pos] 24)) wr):=hid (by simpa using hB);obtain⟨x0,x1,x2,x3,_,_,_,_⟩:=ab (b1.below hB (by omega));(have gh:w.heap.size+1<=wr.heap.size:=by have:=hB.size;simpa using this);clear hI hB;by_cases D:i<m
     ·(have ga:(i:Int)<(m:Int):=by omega);(have h0:(0:Int)<=(i:Int):=by omega);(have ge:(i:Int)<(ks.length:Int):=by rw[N.out];omega);obtain⟨_,b,off,A1,yk,rfl,hb,k0,k1,k2,k3,hn⟩:=i9.at_ (HK.out.below O.out) i (by rw[N.out];exact D);obtain⟨bf,rfl,gj,f0⟩:=(HF.out.below O.out).get i (by rw[HM.out];exact D);have h:=HS.out (fs[i]'(by rw[HM.out];exact D)) (gX _);have he:=h.enter;have HC:=hid (h.out _ _ _ O.out hn (HD.out _ (gX _)));have HE:=hid (BO (fs.map (·.2)) ks i (by rw[jT,HM.out];exact D) (by rw[N.out];exact D));simp only[List.getElem_map]at HE;generalize fs[i]'(by rw[HM.out];exact D)=ff at *;generalize ks[i]'(by rw[N.out];exact D)=x at *;clear hn h;cases hP:ff.2 x with
      |true=>
       have HX:Hid (aY ((fs.map (·.2)).drop (i+1)) (ks.drop (i+1))=I):=hid (by rw[<-HI.out,HE.out,hP];rfl);go_wp2_with fail;refine HC.out.mono ?_;rw[hP];rintro e w1⟨rfl,M⟩;have U:=aD O.out M;clear M HC;go_wp2_with fail;go_roundg (m-(i+1))
       case measure=>omega
       case rel=>exact⟨i+1,by omega,gA _,by go_num,HX.out,by simpa using U⟩
      |false=>have HX:Hid (I=false):=hid (by rw[<-HI.out,HE.out,hP];rfl);go_wp2_with fail;refine HC.out.mono ?_;rw[hP];rintro e w1⟨rfl,M⟩;have U:=aD gd M;clear M HC;go_wp2_with fail;go_ret;exact⟨by rw[HX.out];rfl,U⟩
     ·(have ga:¬ (i:Int)<(m:Int):=by omega);have h4:ks.drop i=[]:=jS (by rw[N.out];omega);have h5:(fs.map (·.2)).drop i=[]:=jS (by rw[jT,HM.out];omega);have HX:Hid (I=true):=hid (by rw[<-HI.out,h4,h5];rfl);clear h4 h5;go_wp2_with fail;go_ret;exact⟨by rw[HX.out];rfl,gd⟩
theorem ck(s:ByteArray)(l:List UInt8):decide (s=⟨l.toArray⟩)=(s.toList==l):=by rw[<-cu,qA ⟨l.toArray⟩]
theorem ef(s sub:ByteArray)(w:World)(I:cP w)(hs:s.size<=2000000000):
  Calls prog 78 #[s,sub] w fun e w'=>e=.returned (.bool (Lib.contains s.data.toList sub.data.toList))/\w=w':=by obtain⟨m,D⟩:=I;exact(Any.strings_Contains Tryz.laysContains s sub m w (by omega) D).mono fun _ _ h=>⟨h.1,h.2.symm⟩
theorem OC(s sep:ByteArray)(w:World)(I:cP w)(hs:s.size<=2000000000):
  Calls prog 215 #[s,sep] w fun e w'=>e=.returned (.tuple #[.string ⟨(Lib.cut s.data.toList sep.data.toList).1.toArray⟩,.string ⟨(Lib.cut s.data.toList sep.data.toList).2.1.toArray⟩,.bool (Lib.cut s.data.toList sep.data.toList).2.2])/\Below w w w':=by obtain⟨m,D⟩:=I;exact(Any.strings_Cut Tryz.laysCut s sep m w (by omega) D).mono fun _ _ h=>⟨h.1,by obtain⟨n,e⟩:=h.2;subst e;exact bg (gG _ _) n⟩
theorem sK(s:ByteArray)(w:World):Calls prog 118 #[s] w fun e w'=>e=.returned (.bool (aE s))/\Below w w w':=by
 (have hE:aE s=(decide ((s.size:Int)<=100)&&dP s):=by unfold aE;congr 1;rw[kU];omega);rw[hE];have I:=hid (BL s w);generalize dP s=q at *;clear hE;cases J:decide ((s.size:Int)<=100);all_goals
  (go_enter func118,ntmps118);go_wp2_with fail;try
   refine I.out.mono ?_
   rintro e w1⟨rfl,D⟩
   go_wp2_with fail
  go_ret;exact⟨rfl,by first|assumption|exact gG _ _⟩
theorem Ao(s:ByteArray)(w:World):Calls prog 212 #[s] w fun e w'=>e=.returned (.bool (bY s))/\Below w w w':=by(have hE:bY s=(aE s && !(s.toList==[95])):=by unfold bY;rw[<-ck s [95],<-decide_not]);rw[hE];have I:=hid (sK s w);generalize aE s=q at *;clear hE;cases q<;>cases J:(s.toList==[95]);all_goals(go_enter func212,ntmps212);go_wp2_with fail;refine I.out.mono ?_;rintro e w1⟨rfl,D⟩;go_wp2_with fail;go_ret;exact⟨rfl,D⟩
theorem mV{P:ByteArray->Bool}{f:FuncId}(D:∀a w,(callFunc f a).run prog w=.ok (.enter f a) w)(w0:World)
  (h:∀(s:ByteArray)(w:World),Below w0 w0 w->s.size<=1000000000->Calls prog f #[s] w fun e w'=>e=.returned (.bool (P s))/\Below w w w'):BJ P ⟨f,#[]⟩ w0:=
 ⟨D,fun w s hb hs=>h s w hb hs⟩
theorem lY(w0:World):BJ aE ⟨118,#[]⟩ w0:=mV (fun a w=>by kernel_rfl) w0 fun s w _ _=>sK s w
theorem IU(w0:World):BJ bY ⟨212,#[]⟩ w0:=mV (fun a w=>by kernel_rfl) w0 fun s w _ _=>Ao s w
theorem F6(w0:World):BJ dV ⟨163,#[]⟩ w0:=mV (fun a w=>by kernel_rfl) w0 fun s w _ _=>by(have hE:dV s=s.toList.isEmpty:=by unfold dV;rw[aq]);rw[hE];cases D:s.toList.isEmpty;all_goals(go_enter func163,ntmps163);go_wp2_with fail;go_ret;exact⟨rfl,gG _ _⟩
theorem IV(w0:World):BJ oL ⟨209,#[]⟩ w0:=mV (fun a w=>by kernel_rfl) w0 fun s w _ _=>by(have hE:oL s=(s.toList.isEmpty||s.toList==[126]):=by unfold oL;rw[aq,ck s [126]]);rw[hE];cases I:s.toList.isEmpty<;>cases D:(s.toList==[126]);all_goals(go_enter func209,ntmps209);go_wp2_with fail;go_ret;exact⟨rfl,gG _ _⟩
theorem IW(w0:World):BJ dX ⟨165,#[]⟩ w0:=mV (fun a w=>by kernel_rfl) w0 fun s w _ _=>by(have hE:dX s=decide ((s.size:Int)<=1000):=by unfold dX;rw[kU];omega);rw[hE];(go_enter func165,ntmps165);go_wp2_with fail;go_ret;exact⟨rfl,gG _ _⟩
theorem IX(w0:World):BJ dW ⟨166,#[]⟩ w0:=mV (fun a w=>by kernel_rfl) w0 fun s w _ _=>by(have hE:dW s=(s.toList==[45]||s.toList==[33]):=by unfold dW;rw[ck s [45],ck s [33]]);rw[hE];cases I:(s.toList==[45])<;>cases D:(s.toList==[33]);all_goals(go_enter func166,ntmps166);go_wp2_with fail;go_ret;exact⟨rfl,gG _ _⟩
theorem OD(w0:World):BJ f8 ⟨213,#[]⟩ w0:=mV (fun a w=>by kernel_rfl) w0 fun s w _ _=>by(have hE:f8 s=(s.toList==[43,43]||s.toList==[45,45]):=by unfold f8;rw[ck s [43,43],ck s [45,45]]);rw[hE];cases I:(s.toList==[43,43])<;>cases D:(s.toList==[45,45]);all_goals(go_enter func213,ntmps213);go_wp2_with fail;go_ret;exact⟨rfl,gG _ _⟩
theorem F7(x:ByteArray)(w:World)(D:cP w):
  Calls prog 78 #[.string ⟨#[32,43,32,45,32,42,32,47,32,37,32,61,61,32,33,61,32,60,32,60,61,32,62,32,62,61,32,38,38,32,124,124,32]⟩,.string x] w fun e w'=>e=.returned (.bool (Lib.contains (32::f7) x.data.toList))/\w=w':=
 ef _ x w D (kC (show _<=100 by decide +kernel) (by omega))
theorem F8(w0:World)(O:cP w0):BJ cU ⟨167,#[]⟩ w0:=mV (fun a w=>by kernel_rfl) w0 fun s w hb hs=>by
 have M:=hid (O.below hb);(have hE:cU s=(!s.toList.isEmpty&&(!(Lib.contains s.data.toList [32])&&Lib.contains (32::f7) (32::(s.data.toList++[32])))):=by unfold cU;rw[aq,<-decide_not]);rw[hE];clear hE;have I:=hid (ef s ⟨#[32]⟩ w M.out (by omega));(have J:((⟨#[32]⟩++s++⟨#[32]⟩:ByteArray)).data.toList=32::(s.data.toList++[32]):=by simp[ByteArray.data_append]);have D:=F7 (⟨#[32]⟩++s++⟨#[32]⟩) w M.out;rw[J]at D;generalize Lib.contains (32::f7) (32::(s.data.toList++[32]))=q2 at *;have U:=hid D;rw[show(⟨#[32]⟩:BA).data.toList=[32]from rfl]at I;clear D J;cases N:Lib.contains s.data.toList [32]<;>cases hE:s.toList.isEmpty;all_goals
  (go_enter func167,ntmps167);go_wp2_with fail;try
   refine I.out.mono ?_
   rw[N]
   rintro e w1⟨rfl,rfl⟩
   go_wp2_with fail
  try
   refine U.out.mono ?_
   rintro e w1⟨rfl,rfl⟩
   go_wp2_with fail
  go_ret;exact⟨rfl,gG _ _⟩
theorem F9(w0:World)(hT:cP w0):BJ bL ⟨175,#[]⟩ w0:=mV (fun a w=>by kernel_rfl) w0 fun s w hb hs=>by
 have HT:=hid (hT.below hb);have O:=hid (OC s ⟨#[44]⟩ w HT.out (by omega));(have hE:bL s=(s.toList.isEmpty||(((fj s).2.2&&(aE ⟨(fj s).1.toArray⟩&&bY ⟨(fj s).2.1.toArray⟩))||(!(fj s).2.2&&bY ⟨(fj s).1.toArray⟩))):=by unfold bL;rw[aq]);rw[hE];clear hE;rw[show Lib.cut s.data.toList (⟨#[44]⟩:BA).data.toList=fj s from rfl]at O;generalize fj s=q at *;obtain⟨I,N,U⟩:=q;simp only at *;have h:=hid (fun w=>sK ⟨I.toArray⟩ w);have M:=hid (fun w=>Ao ⟨I.toArray⟩ w);have J:=hid (fun w=>Ao ⟨N.toArray⟩ w);generalize aE ⟨I.toArray⟩=n1 at *;generalize bY ⟨I.toArray⟩=b1 at *;generalize bY ⟨N.toArray⟩=b2 at *;cases ga:s.toList.isEmpty<;>cases U<;>cases n1<;>cases b1<;>cases b2;all_goals
  (go_enter func175,ntmps175);go_wp2_with fail;refine O.out.mono ?_;rintro e w1⟨rfl,hB⟩;go_wp2_with (first
   |(go_at_call 118;with_reducible refine(h.out _).mono ?_;rintro e w2⟨rfl,D⟩;replace hB:=aD hB D;clear D)
   |(go_at_call 212;with_reducible refine(J.out _).mono ?_;rintro e w2⟨rfl,D⟩;replace hB:=aD hB D;clear D)
   |(go_at_call 212;with_reducible refine(M.out _).mono ?_;rintro e w2⟨rfl,D⟩;replace hB:=aD hB D;clear D))
  go_ret;exact⟨rfl,hB⟩
theorem tu(l:List UInt8):l.all eF=true↔∀j,j<l.length->av ((l.getD j 0).toNat:Int)=true:=by
 rw[qI];constructor
 ·intro h j D;have:=h l[j] (gX _);rw[eY]at this;simpa[D]using this
 ·intro h x hx;obtain⟨j,D,rfl⟩:=List.mem_iff_getElem.1 hx;have:=h j D;rw[eY];simpa[D]using this
theorem OE{s:ByteArray}(h:0<s.size):decide (s.data.toList.head? ≠ some 48)=((s[0].toNat:Int) != 48):=by(have e:s.data.toList.head? = some s[0]:=by rw[List.head?_eq_getElem?,gN (by simpa using h)];rfl);rw[e,kQ];simp only[ne_eq,Option.some.injEq,decide_not,qv,gJ,kZ];rw[<-vB];simp only[UInt8.reduceToNat];omega
theorem Ga(s:ByteArray)(w:World):Calls prog 164 #[s] w fun e w'=>e=.returned (.bool (dt s))/\Below w w w':=by
 have hT:dt s=(s.data.toList.all eF&&(s.toList==[48]||(!s.toList.isEmpty&&(decide ((s.size:Int)<=200)&&decide (s.data.toList.head? ≠ some 48))))):=by
  unfold dt;rw[aq,ck s [48]];congr 3
  ·simp
  ·congr 1;rw[kU];omega
 have hN:=tu s.data.toList;rw[hT];generalize s.data.toList.all eF=nc at *;have HN:=hid hN;clear hT hN;have i1:=qE w s 0;have i2:Below w w (w.iter s 0):=(gG _ w).alloc (gA _) _;(go_enter func164,ntmps164);go_wp2_with fail;go_loopg [4,7,8] s.size (fun g _ _ _ wr=>∃i:Nat,i<=s.size/\s.size-i<=g/\wr.heap[w.heap.size]? = some (.stringIter s i)/\Below w w wr/\(∀j,j<i->av ((s.data.toList.getD j 0).toNat:Int)=true))
 case atStart=>exact⟨0,gP _,by omega,i1,i2,fun j hj=>by omega⟩
 case round=>
  clear i1 i2;obtain⟨i,hi,hg,hit,hB,h⟩:=hrel;have gd:=hid hit;have HA:=hid h;clear hit h;by_cases J:i<s.size
  ·have hw:=rf s i J;have ga:=nQ s i J;have D:=fun ty=>qP (P:=prog) wr w.heap.size s i ty gd.out J;generalize hb:(s.data.toList.getD i 0).toNat=b at *;generalize hd:Utf8.decode s i=q at *;obtain⟨r,k⟩:=q;simp only at hw D ga;have U:av (r:Int)=av (b:Int)/\(av (r:Int)=true->k=1):=by
    rcases ga with⟨e,_⟩|⟨h1,h2⟩
    ·injection e with e1 e2;subst e1 e2;exact⟨rfl,fun _=>rfl⟩
    ·rw[fd (by omega),fd (by omega)];exact⟨rfl,by simp⟩
   have I:=hid U;have ge:=hid hb;have j1:=qT wr w.heap.size s i (i+k) gd.out;have j2:Below w w (wr.iterAt w.heap.size s (i+k)):=cF hB (gA _);generalize wr.iterAt w.heap.size s (i+k)=W1 at D j1 j2;have J1:=hid j1;clear U ga j1 hd hb;have O:av (r:Int)=false->nc=false:=by
    intro hf;cases hn:nc with
    |false=>rfl
    |true=>have:=(HN.out.1 hn) i (by simpa using J);rw[ge.out,<-I.out.1,hf]at this;cases this
   have M:=hid O;have gg:av (r:Int)=true->∀j,j<i+k->av ((s.data.toList.getD j 0).toNat:Int)=true:=by
    intro hf j hj;have hk:=I.out.2 hf;by_cases e:j=i
    ·subst e;rw[ge.out,<-I.out.1,hf]
    ·exact HA.out j (by omega)
   have gj:=hid gg;clear O gg I ge HA;unfold av at M gj;cases h1:decide ((r:Int)<48)with
   |true=>have HX:=hid (M.out (by(have:decide (48<=(r:Int))=false:=by simp at h1 |-;omega);rw[this];rfl));go_wp2_with fail;go_ret;exact⟨by rw[HX.out];rfl,j2⟩
   | false=>
    (have gb:decide (48<=(r:Int))=true:=by simp at h1 |-;omega);cases h2:decide (57<(r:Int))with
    |true=>have HX:=hid (M.out (by(have:decide ((r:Int)<=57)=false:=by simp at h2 |-;omega);rw[this];simp));clear gb;go_wp2_with fail;go_ret;exact⟨by rw[HX.out];rfl,j2⟩
    |false=>
     have gi:=hid (gj.out (by(have:decide ((r:Int)<=57)=true:=by simp at h2 |-;omega);rw[gb,this];rfl));clear gb;go_wp2_with fail;go_roundg (s.size-(i+k))
     case measure=>omega
     case rel=>exact⟨i+k,hw.2,gA _,J1.out,j2,gi.out⟩
  ·(have gh:i=s.size:=by omega);have D:=fun ty=>qF (P:=prog) wr w.heap.size s i ty gd.out J;have HX:Hid (nc=true):=hid (HN.out.2 fun j hj=>HA.out j (by simp at hj;omega));clear gh;cases N:(s.toList==[48])with
   |true=>go_wp2_with fail;go_ret;exact⟨by rw[HX.out,N];rfl,hB⟩
   | false=>
    cases hE:s.toList.isEmpty with
    |true=>go_wp2_with fail;go_ret;exact⟨by rw[HX.out,N,hE];rfl,hB⟩
    | false=>
     cases hL:decide ((s.size:Int)<=200)with
     |false=>go_wp2_with fail;go_ret;exact⟨by rw[HX.out,N,hE,hL];rfl,hB⟩
     | true=>
      have hp:0<s.size:=by
       rcases kR s.size with h0|h0
       ·(have:s.toList=[]:=by rw[qA];exact jQ h0);rw[this]at hE;cases hE
       ·exact h0
      (have yk:(0:Int)<(s.size:Int):=by omega);go_wp2_with fail;go_ret;refine⟨?_,hB⟩;rw[HX.out,N,hE,hL,OE hp];rfl
theorem IY(w0:World):BJ dt ⟨164,#[]⟩ w0:=mV (fun a w=>by kernel_rfl) w0 fun s w _ _=>Ga s w
structure r6(g:Nat)(F:cQ):Prop where
 typ:f9 g F.typ 121
 expr:f9 g F.expr 122
 block:f9 g F.block 157
 stmt:f9 g F.stmt 123
 ifS:f9 g F.ifS 173
theorem r6.pred{d:Nat}{F:cQ}(h:r6 (d+1) F):r6 d F:=
 ⟨h.typ.le fun _=>dK.succ,h.expr.le fun _=>dK.succ,h.block.le fun _=>dK.succ,h.stmt.le fun _=>dK.succ,h.ifS.le fun _=>dK.succ⟩
theorem iP(a:Array Value)(w:World):(callFunc 121 a).run prog w=.ok (.enter 121 a) w:=by kernel_rfl
theorem dM(a:Array Value)(w:World):(callFunc 122 a).run prog w=.ok (.enter 122 a) w:=by kernel_rfl
theorem mb(a:Array Value)(w:World):(callFunc 157 a).run prog w=.ok (.enter 157 a) w:=by kernel_rfl
theorem Lz(a:Array Value)(w:World):(callFunc 123 a).run prog w=.ok (.enter 123 a) w:=by kernel_rfl
theorem RU(a:Array Value)(w:World):(callFunc 173 a).run prog w=.ok (.enter 173 a) w:=by kernel_rfl
theorem Gz(a:Array Value)(w:World):(callFunc 174 a).run prog w=.ok (.enter 174 a) w:=by kernel_rfl
theorem lG(d:Nat)(w0:World):nP d ah ⟨174,#[]⟩ w0:=⟨Gz,fun w v n _ hv _=>sI w v n hv⟩
theorem d9.new{w:World}{b:Nat}(fs:List (Fv×(Nd->Bool))){cs:Array Value}(D:cs=(fs.map fun x=>Value.func (.func x.1.k) #[] x.1.cap).toArray)(h:an w b 37 cs):d9 w (some ⟨b,0,none⟩) fs:=
 .inr ⟨b,rfl,by rw[<-D];exact h⟩
theorem LA(g:Nat)(F:cQ)(hF:r6 g F)(so:ByteArray->Bool)(f:Fv)(b:Nat)(w0:World)(hT:cP w0)(hs:BJ so f w0)(hb:an w0 b 49 #[.func (.func f.k) #[] f.cap]):
  nP g (dQ F so) ⟨210,#[b]⟩ w0:=by
 refine⟨fun a w=>by kernel_rfl,fun w v n hw hv hd=>?_⟩;cases g with
 |zero=>exact hd.elim
 |succ d=>have N:=hv;obtain⟨A,cp,rfl,hC⟩:=hv.toC;have hB:=(aj w (nv n A cp)).1;have D:=hw.alloc hw.size (.cells (nv n A cp) 24);have ca:=a7 (hb.bl D);have HN:=hid (cJ _ _ n (N.below hB) f so (hs.below D) hd.txt);have HT:=hid (hT.below D);have HF:=hid hF;have HD:=hid hd;have ge:=hb.lt;have gd:=hw.size;show Calls _ _ _ w fun e w'=>e=.returned (.bool (cA 8 [F.typ] (au so n)))/\_;clear N hv hC hb hs hT hF hd;(go_enter func210,ntmps210);go_wp2_with fail;refine HN.out.mono ?_;rintro e w1⟨v1,rfl,U,J⟩;have gb:=hid (HT.out.below J);have ga:=aD hB J;clear J HN hB D ca HT;go_wp2_with fail;have I:=(gG w1.heap.size w1).alloc (gA _) (.cells #[.func (.func 121) #[] #[]] 37);have O:=aD ga I;refine(cj d [(⟨121,#[]⟩,F.typ)] 8 v1 (au so n) _ _ 1 rfl (by omega) (U.below I) HD.out.named (d9.new _ rfl (an.new w1 _ _)) (by intro x hx;obtain rfl:=List.mem_singleton.1 hx;exact HF.out.pred.typ.so iP _ (gb.out.below I))).mono ?_;rintro e w2⟨rfl,M⟩;have h:=aD O M;clear I M O;go_wp2_with fail;go_ret;exact⟨rfl,h⟩
theorem LB(g:Nat)(P:Nd->Bool)(f:Fv)(b:Nat)(w0:World)(hs:nP g P f w0)(hb:an w0 b 37 #[.func (.func f.k) #[] f.cap]):
  nP g (lP P) ⟨211,#[b]⟩ w0:=by
 refine⟨fun a w=>by kernel_rfl,fun w v n hw hv hd=>?_⟩;cases g with
 |zero=>exact hd.elim
 |succ d=>have J:=hv;obtain⟨A,cp,rfl,h⟩:=hv.toC;have hB:=(aj w (nv n A cp)).1;have D:=hw.alloc hw.size (.cells (nv n A cp) 24);have ca:=a7 (hb.bl D);have N:=hid (BN d P f _ n _ (J.below hB) hd ⟨hs.enter,fun w' v' n' h1 h2 h3=>hs.out w' v' n' (aD D h1) h2 h3.succ⟩);have U:=hb.lt;have O:=hw.size;clear J hv h hb hs hd;(go_enter func211,ntmps211);go_wp2_with fail;refine N.out.mono ?_;rintro e w1⟨rfl,I⟩;have M:=aD hB I;clear I N hB;go_wp2_with fail;go_ret;exact⟨rfl,M⟩
theorem l6{w:World}{g:Nat}{t:TypeId}{a b c d:Value}(h:an w g t #[a,b,c,d]):w.cell? ⟨g,0,none⟩=some a/\w.cell? ⟨g,1,none⟩=some b/\w.cell? ⟨g,2,none⟩=some c/\w.cell? ⟨g,3,none⟩=some d:=by obtain⟨M,J,I,D,_⟩:=ab h;exact⟨M,J,I,D⟩
theorem Cl{d:Nat}{w:World}{f g:Fv}{P Q:Nd->Bool}(I:nP d P f w)(D:nP d Q g w):∀x∈[(f,P),(g,Q)],nP d x.2 x.1 w:=by
 intro x hx;rcases List.mem_cons.1 hx with rfl|hx
 ·exact I
 ·obtain rfl:=List.mem_singleton.1 hx;exact D
theorem ET(g:Nat)(F:cQ)(hF:r6 g F)(so:ByteArray->Bool)(f:Fv)(v:Value)(n:Nd)(w:World)(hT:cP w)(hv:aF w v n)(hd:dK (g+1) n)(hs:BJ so f w):
  Calls prog 162 #[v,.func (.func f.k) #[] f.cap] w fun e w'=>e=.returned (.bool (io F so n))/\Below w w w':=by
 have N:=hv;obtain⟨A,cp,rfl,hC⟩:=hv.toC;have HV:=hid N;have HT:=hid hT;have HS:=hid hs;have HD:=hid hd;have HF:=hid hF;clear N hv hC hT hs hd hF;show Calls _ _ _ w fun e w'=>e=.returned (.bool (cA 12 [lP (dQ F so),cB ah F.typ] n))/\_;(go_enter func162,ntmps162);go_wp2_with fail;have c0:an (((w.alloc (.cells (nv n A cp) 24)).alloc (.cells #[.func (.func f.k) #[] f.cap] 49)).alloc (.cells #[.func (.func 210) #[] #[.pointer (some ⟨w.heap.size+1,0,none⟩)]] 37)) w.heap.size 24 (nv n A cp):=((an.new w _ _).alloc _).alloc _;have c1:an (((w.alloc (.cells (nv n A cp) 24)).alloc (.cells #[.func (.func f.k) #[] f.cap] 49)).alloc (.cells #[.func (.func 210) #[] #[.pointer (some ⟨w.heap.size+1,0,none⟩)]] 37)) (w.heap.size+1) 49 #[.func (.func f.k) #[] f.cap]:=(an.new_at (by simp) _ _).alloc _;have c2:an (((w.alloc (.cells (nv n A cp) 24)).alloc (.cells #[.func (.func f.k) #[] f.cap] 49)).alloc (.cells #[.func (.func 210) #[] #[.pointer (some ⟨w.heap.size+1,0,none⟩)]] 37)) (w.heap.size+1+1) 37 #[.func (.func 210) #[] #[.pointer (some ⟨w.heap.size+1,0,none⟩)]]:=an.new_at (by simp) _ _;have hB:Below w w (((w.alloc (.cells (nv n A cp) 24)).alloc (.cells #[.func (.func f.k) #[] f.cap] 49)).alloc (.cells #[.func (.func 210) #[] #[.pointer (some ⟨w.heap.size+1,0,none⟩)]] 37)):=lU;generalize(((w.alloc (.cells (nv n A cp) 24)).alloc (.cells #[.func (.func f.k) #[] f.cap] 49)).alloc (.cells #[.func (.func 210) #[] #[.pointer (some ⟨w.heap.size+1,0,none⟩)]] 37))=W at *;have gb:=hid (HV.out.below hB);have U:=hid (HT.out.below hB);have HL:=hid (LB g (dQ F so) ⟨210,#[.pointer (some ⟨w.heap.size+1,0,none⟩)]⟩ (w.heap.size+1+1) W (LA g F HF.out so f _ W U.out (HS.out.below hB) c1) c2);have J:=c0.lt;have ge:=c2.lt;have I:Below W W W.drew:=(gG _ _).drew;have gd:=hid (U.out.below I);have O:=aD hB I;have C0:=hid c0.drew;clear c1 c2 c0 hB HT HV HS;go_region_held3 (fun w'=>w'.cell? ⟨w,0,none⟩=some (.int .i64 n.kind)/\w'.cell? ⟨w,1,none⟩=some (.string n.text)/\w'.cell? ⟨w,2,none⟩=some (.slice A n.kids.length cp)/\w'.cell? ⟨w,3,none⟩=some (.int .i64 n.pos))
  (first|with_reducible exact l6 q3|with_reducible exact l6 (q2.alloc _)|with_reducible exact l6 q2|with_reducible exact l6 C0.out)
  (first
   |(go_at_call 158;refine(fS g ah F.typ ⟨174,#[]⟩ ⟨121,#[]⟩ _ (lG g _) (HF.out.typ.so iP _ gd.out)).mono ?_;rintro e w2⟨h,rfl,ga,D⟩;have q2:=C0.out.below D J)
   |(go_at_call 154;refine(cj g [(⟨211,#[.pointer (some ⟨w.heap.size+1+1,0,none⟩)]⟩,lP (dQ F so)),(h,cB ah F.typ)] 12 _ n _ _ 2 rfl (by omega) ((gb.out.below I).below (D.alloc D.size _)) HD.out (d9.new _ rfl (an.new w2 _ _)) (Cl ((HL.out.below I).below (D.alloc D.size _)) (ga.below ((gG _ w2).alloc (gA _) _)))).mono ?_;rintro e w3⟨rfl,M⟩;have q3:=(q2.alloc _).below M (kH J (kC D.size (by simp)))))
 (all_goals go_wp2_with fail);(all_goals go_ret);all_goals exact⟨rfl,(aD O D).trans ((((gG _ w2).alloc (gA _) _).trans (M.mono (by simp))).mono (kC O.size D.size))⟩
theorem ia{d:Nat}{w:World}{f:Fv}{P:Nd->Bool}(D:nP d P f w):∀x∈[(f,P)],nP d x.2 x.1 w:=by intro x hx;obtain rfl:=List.mem_singleton.1 hx;exact D
theorem lH{d:Nat}{w:World}{f g:Fv}{P Q:Nd->Bool}(I:nP d P f w)(D:nP d Q g w):∀x∈[(f,P),(g,Q)],nP d x.2 x.1 w:=Cl I D
theorem uI{d:Nat}{w:World}{f g h:Fv}{P Q R:Nd->Bool}(J:nP d P f w)(I:nP d Q g w)(D:nP d R h w):∀x∈[(f,P),(g,Q),(h,R)],nP d x.2 x.1 w:=by
 intro x hx;rcases List.mem_cons.1 hx with rfl|hx
 ·exact J
 ·exact lH I D x hx
theorem LC{d:Nat}{w:World}{f g h k:Fv}{P Q R S:Nd->Bool}(M:nP d P f w)(J:nP d Q g w)(I:nP d R h w)(D:nP d S k w):∀x∈[(f,P),(g,Q),(h,R),(k,S)],nP d x.2 x.1 w:=by
 intro x hx;rcases List.mem_cons.1 hx with rfl|hx
 ·exact M
 ·exact uI J I D x hx
theorem LD(a:Array Value)(w:World):(callFunc 208 a).run prog w=.ok (.enter 208 a) w:=by kernel_rfl
theorem GA(a:Array Value)(w:World):(callFunc 207 a).run prog w=.ok (.enter 207 a) w:=by kernel_rfl
theorem rl(a:Array Value)(w:World):(callFunc 156 a).run prog w=.ok (.enter 156 a) w:=by kernel_rfl
theorem Cm(a:Array Value)(w:World):(callFunc 124 a).run prog w=.ok (.enter 124 a) w:=by kernel_rfl
theorem D0(a:Array Value)(w:World):(callFunc 159 a).run prog w=.ok (.enter 159 a) w:=by kernel_rfl
theorem yC(a:Array Value)(w:World):(callFunc 160 a).run prog w=.ok (.enter 160 a) w:=by kernel_rfl
theorem RV(g:Nat)(F:cQ)(hF:r6 g F):f9 (g+1) (uo F) 208:=by intro w v n hT hv hd;have N:=hv;obtain⟨A,cp,rfl,hC⟩:=hv.toC;have hB:=(aj w (nv n A cp)).1;have b1:=(aj w (nv n A cp)).2;have HV:=hid (N.below hB);have gd:=hid N;have HT:=hid (hT.below hB);have HF:=hid hF;have HD:=hid hd;clear N hv hC hT hF hd;have HE:=hid (show uo F n=cA 15 [F.typ] (au oL n)from rfl);(go_enter func208,ntmps208);go_wp2_with fail;refine(cJ _ _ n HV.out ⟨209,#[]⟩ oL (IV _) HD.out.txt).mono ?_;rintro e w1⟨v1,rfl,O,M⟩;have ga:=aD hB M;have U:=hid (cP.below HT.out M);have gb:=hid O;clear M O;go_wp2_with fail;have D:=(gG w1.heap.size w1).alloc (gA _) (.cells #[.func (.func 121) #[] #[]] 37);have I:=aD ga D;refine(cj g [(⟨121,#[]⟩,F.typ)] 15 v1 (au oL n) _ _ 1 rfl (by omega) (gb.out.below D) HD.out.named (d9.new _ rfl (an.new w1 _ _)) (ia (HF.out.typ.so iP _ (cP.below U.out D)))).mono ?_;rintro e w2⟨rfl,J⟩;have h:=aD I J;have ge:=hid (cP.below (cP.below U.out D) J);clear D I;clear J;go_wp2_with fail;go_ret;exact⟨by rw[HE.out];rfl,h⟩
theorem OY(g:Nat)(F:cQ)(hF:r6 g F):f9 (g+1) (re F) 207:=by intro w v n hT hv hd;have N:=hv;obtain⟨A,cp,rfl,hC⟩:=hv.toC;have hB:=(aj w (nv n A cp)).1;have b1:=(aj w (nv n A cp)).2;have HV:=hid (N.below hB);have gd:=hid N;have HT:=hid (hT.below hB);have HF:=hid hF;have HD:=hid hd;clear N hv hC hT hF hd;have HE:=hid (show re F n=cA 9 [F.typ] (au aE n)from rfl);(go_enter func207,ntmps207);go_wp2_with fail;refine(cJ _ _ n HV.out ⟨118,#[]⟩ aE (lY _) HD.out.txt).mono ?_;rintro e w1⟨v1,rfl,O,M⟩;have ga:=aD hB M;have U:=hid (cP.below HT.out M);have gb:=hid O;clear M O;go_wp2_with fail;have D:=(gG w1.heap.size w1).alloc (gA _) (.cells #[.func (.func 121) #[] #[]] 37);have I:=aD ga D;refine(cj g [(⟨121,#[]⟩,F.typ)] 9 v1 (au aE n) _ _ 1 rfl (by omega) (gb.out.below D) HD.out.named (d9.new _ rfl (an.new w1 _ _)) (ia (HF.out.typ.so iP _ (cP.below U.out D)))).mono ?_;rintro e w2⟨rfl,J⟩;have h:=aD I J;have ge:=hid (cP.below (cP.below U.out D) J);clear D I;clear J;go_wp2_with fail;go_ret;exact⟨by rw[HE.out];rfl,h⟩
theorem EU(g:Nat)(F:cQ)(hF:r6 g F):f9 (g+1) (i8 F) 160:=by
 intro w v n J hv hd;have D:=hv;obtain⟨A,cp,rfl,N⟩:=hv.toC;have hB:=(aj w (nv n A cp)).1;have b1:=(aj w (nv n A cp)).2;have U:=hid (D.below hB);have O:=hid D;have h:=hid (J.below hB);have HF:=hid hF;have M:=hid hd;clear D hv N J hF hd;have HI:=hid (iL g (uo F) ⟨208,#[]⟩ A cp n.kids _ U.out.kidsV M.out.2 M.out.1.1 (((RV g F HF.out).le fun _=>dK.succ).so LD _ h.out));(have hE:i8 F n=((n.kind==14)&&(n.text.toList.isEmpty&&(decide (0<n.kids.length)&&n.kids.all (uo F)))):=by unfold i8;rw[aq,fH]);rw[hE];clear hE;generalize n.kids.all (uo F)=q at *;cases h0:(n.kind==14)<;>cases h1:n.text.toList.isEmpty<;>cases h2:decide (0<n.kids.length);all_goals
  (go_enter func160,ntmps160);go_wp2_with fail;try
   refine HI.out.mono ?_
   rintro e w1⟨rfl,I⟩
   replace hB:=aD hB I
   clear I
   go_wp2_with fail
  go_ret;exact⟨rfl,hB⟩
theorem D1(g:Nat)(F:cQ)(hF:r6 g F):f9 (g+1) (ls F) 159:=by
 intro w v n J hv hd;have D:=hv;obtain⟨A,cp,rfl,N⟩:=hv.toC;have hB:=(aj w (nv n A cp)).1;have b1:=(aj w (nv n A cp)).2;have U:=hid (D.below hB);have O:=hid D;have h:=hid (J.below hB);have HF:=hid hF;have M:=hid hd;clear D hv N J hF hd;have HI:=hid (iL g (re F) ⟨207,#[]⟩ A cp n.kids _ U.out.kidsV M.out.2 M.out.1.1 (((OY g F HF.out).le fun _=>dK.succ).so GA _ h.out));(have hE:ls F n=((n.kind==13)&&(n.text.toList.isEmpty&&n.kids.all (re F))):=by unfold ls;rw[aq,fH]);rw[hE];clear hE;generalize n.kids.all (re F)=q at *;cases h0:(n.kind==13)<;>cases h1:n.text.toList.isEmpty;all_goals
  (go_enter func159,ntmps159);go_wp2_with fail;try
   refine HI.out.mono ?_
   rintro e w1⟨rfl,I⟩
   replace hB:=aD hB I
   clear I
   go_wp2_with fail
  go_ret;exact⟨rfl,hB⟩
theorem Cn(g:Nat)(F:cQ)(hF:r6 g F):f9 (g+1) (fw F) 124:=by intro w v n M hv hd;have D:=hv;obtain⟨A,cp,rfl,N⟩:=hv.toC;have hB:=(aj w (nv n A cp)).1;have b1:=(aj w (nv n A cp)).2;have U:=hid (D.below hB);have O:=hid D;have h:=hid (M.below hB);have HF:=hid hF;have HD:=hid hd;clear D hv N M hF hd;have HI:=hid (ET g F HF.out aE ⟨118,#[]⟩ _ n _ h.out U.out HD.out (lY _));rw[show fw F n=io F aE n from rfl];(go_enter func124,ntmps124);go_wp2_with fail;refine HI.out.mono ?_;rintro e w1⟨rfl,I⟩;have J:=aD hB I;clear I;go_wp2_with fail;go_ret;exact⟨rfl,J⟩
theorem RW(g:Nat)(F:cQ)(hF:r6 g F):f9 (g+1) (dA F) 121:=by
 intro w v n hT hv hd;obtain⟨nk,nt,nl,np⟩:=n;have U:=hv;obtain⟨A,cp,rfl,hC⟩:=hv.toC;simp only[Nd.kind_mk,Nd.text_mk,Nd.kids_mk,Nd.pos_mk]at U |-;have hB:=(aj w #[.int .i64 nk,.string nt,.slice A nl.length cp,.int .i64 np]).1;have b1:=(aj w #[.int .i64 nk,.string nt,.slice A nl.length cp,.int .i64 np]).2;have HV:=hid (U.below hB);have gi:=hid U;have HT:=hid (hT.below hB);have HF:=hid hF;have HD:=hid hd;clear U hv hC hT hF hd;by_cases I:nk=10
 ·subst I;have HE:=hid (show dA F (Nd.mk 10 nt nl np)=(aE nt&&nl.all F.typ)from rfl);(go_enter func121,ntmps121);go_wp2_with fail;have HI:=hid (fun w'(hb:Below (w.alloc (.cells #[.int .i64 10,.string nt,.slice A nl.length cp,.int .i64 np] 24)).heap.size (w.alloc (.cells #[.int .i64 10,.string nt,.slice A nl.length cp,.int .i64 np] 24)) w')=>iL g F.typ ⟨121,#[]⟩ A cp nl _ (HV.out.below hb).kidsV HD.out.2 HD.out.1.1 (HF.out.typ.so iP _ (HT.out.below hb)));refine(sK _ _).mono ?_;rintro e w1⟨rfl,D⟩;have N:=aD hB D;have gd:=hid (HI.out _ D);obtain⟨x0,x1,x2,x3,_,_,_,_⟩:=ab (b1.below D (by simp));clear D HI;cases hq:aE nt with
  |false=>go_wp2_with fail;go_ret;exact⟨by rw[HE.out,hq];rfl,N⟩
  |true=>go_wp2_with fail;refine gd.out.mono ?_;rintro e w2⟨rfl,ga⟩;have gb:=aD N ga;clear ga;go_wp2_with fail;go_ret;exact⟨by rw[HE.out,hq];rfl,gb⟩
 by_cases J:nk=11
 ·subst J;clear I;have HE:=hid (show dA F (Nd.mk 11 nt nl np)=cA 11 [F.typ] (Nd.mk 11 nt nl np)from rfl);(go_enter func121,ntmps121);go_wp2_with fail;have O:=(gG (w.alloc (.cells #[.int .i64 11,.string nt,.slice A nl.length cp,.int .i64 np] 24)).heap.size (w.alloc (.cells #[.int .i64 11,.string nt,.slice A nl.length cp,.int .i64 np] 24))).alloc (gA _) (.cells #[.func (.func 121) #[] #[]] 37);have h:=aD hB O;refine(cj g [(⟨121,#[]⟩,F.typ)] 11 _ ((Nd.mk 11 nt nl np)) _ _ 1 rfl (by omega) (HV.out.below O) HD.out (d9.new _ rfl (an.new_at (n:=w.heap.size+1) (by simp) _ _)) (ia (HF.out.typ.so iP _ (cP.below HT.out O)))).mono ?_;rintro e w1⟨rfl,D⟩;have N:=aD h D;have gj:=hid (cP.below (cP.below HT.out O) D);clear O h;clear D;go_wp2_with fail;go_ret;exact⟨by rw[HE.out];rfl,N⟩
 by_cases M:nk=12
 ·subst M;clear I J;have HE:=hid (show dA F (Nd.mk 12 nt nl np)=io F dV (Nd.mk 12 nt nl np)from rfl);(go_enter func121,ntmps121);go_wp2_with fail;refine(ET g F HF.out dV ⟨163,#[]⟩ _ (Nd.mk 12 nt nl np) _ HT.out HV.out HD.out (F6 _)).mono ?_;rintro e w1⟨rfl,D⟩;have N:=aD hB D;clear D;go_wp2_with fail;go_ret;exact⟨by rw[HE.out];rfl,N⟩
 have HE:Hid (dA F (Nd.mk nk nt nl np)=false):=hid (by unfold dA;simp only[Nd.kind_mk,I,J,M,kI]);(have gh:(nk==10)=false:=by simpa using I);(have gg:(nk==11)=false:=by simpa using J);(have ge:(nk==12)=false:=by simpa using M);clear I J M;(go_enter func121,ntmps121);go_wp2_with fail;go_ret;exact⟨by rw[HE.out];rfl,hB⟩
end
end Go.Proofs.YtiebcdeafofgdaaGreatDoor
