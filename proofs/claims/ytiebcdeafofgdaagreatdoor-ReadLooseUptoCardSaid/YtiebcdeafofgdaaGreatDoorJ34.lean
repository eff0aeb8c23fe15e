/-
  Parts of the proof: Ptok Ppr Pshift Pwr Ubin Cut Pqg Pout Pqh. By an AI agent.
-/
import Derived.Test.YtiebcdeafofgdaaGreatDoorJ18
import Derived.Test.YtiebcdeafofgdaaGreatDoorJ33
import Derived.Test.YtiebcdeafofgdaaGreatDoorJ01
import Derived.Test.YtiebcdeafofgdaaGreatDoorJ02
import Derived.Test.YtiebcdeafofgdaaGreatDoorJ15
import Derived.Test.YtiebcdeafofgdaaGreatDoorJ27
import Derived.Lib.IndexBytes
import Derived.Lib.IndexAny
import Derived.Lib.IndexMore
namespace Go.Proofs.YtiebcdeafofgdaaGreatDoor
section
open Go.Lib
def NB(t:cO):Prop:=t.kind=5\/(32:UInt8)∉bytes t.text
theorem rn{row x:List UInt8}(h:contains (32::row++[32]) (32::x++[32])=true):∃k,k<=(32::row++[32]).length/\(32::x++[32]).isPrefixOf ((32::row++[32]).drop k)=true:=by
 unfold contains at h;rw[gE]at h;rcases index_spec (32::row++[32]) (32::x++[32])with⟨J,_⟩|⟨i,_,I,D,_⟩
 ·omega
 ·exact⟨i,I,D⟩
theorem mZ{p l:List UInt8}(h:p.isPrefixOf l=true):l.take p.length=p:=by rw[List.isPrefixOf_iff_prefix]at h;exact(List.prefix_iff_eq_take.1 h).symm
def TV(row:ByteArray)(m n:Nat):Bool:=(List.range m).all fun k=>
 let w:=((32::bytes row++[32]).drop k).take n
 !(decide (w.length=n)&&(w.getD 0 0==32&&(w.getD (n-1) 0==32&&w.getD 1 0 != 32)))||(w.getD 2 0 != 32&&(n==4||w.getD 3 0 != 32))
theorem TJ:TV oC 18 5=true:=by decide +kernel
theorem TL:TV oP 65 4=true:=by decide +kernel
theorem L6(k:Nat)(D:k<18)(a b c:UInt8)(h:((32::bytes oC++[32]).drop k).take 5=[32,a,b,c,32])(I:a≠32):b≠32/\c≠32:=by have:=List.all_eq_true.1 TJ k (List.mem_range.2 D);rw[h]at this;simpa[I]using this
theorem L7(k:Nat)(D:k<65)(a b:UInt8)(h:((32::bytes oP++[32]).drop k).take 4=[32,a,b,32])(I:a≠32):b≠32:=by have:=List.all_eq_true.1 TL k (List.mem_range.2 D);rw[h]at this;simpa[I]using this
theorem uR:(32::bytes oC++[32]).length=17/\(32::bytes oP++[32]).length=64:=by decide +kernel
theorem mm(row t:ByteArray)(n:Nat):mD row t n=contains (32::bytes row++[32]) (32::(bytes t).take n++[32]):=by unfold mD;(have I:((⟨#[32]⟩++row++⟨#[32]⟩:ByteArray)).data.toList=32::bytes row++[32]:=by show bytes _=_;rw[aO,aO];rfl);(have D:((⟨#[32]⟩++t.extract 0 n++⟨#[32]⟩:ByteArray)).data.toList=32::(bytes t).take n++[32]:=by show bytes _=_;rw[aO,aO,ez];simp[bytes]);rw[I,D]
theorem Pj(s:ByteArray)(i:Nat)(hb:ac s i≠32)(h0:dC s i≠0):(32:UInt8)∉bytes (s.extract i (i+dC s i)):=by
 (have hd:∀n,bytes (s.extract i (i+n))=((bytes s).drop i).take n:=fun n=>by rw[ez];congr 1;omega);(have N:bytes (s.extract i s.size)=(bytes s).drop i:=by rw[ez];exact jA (by rw[gY,cm];omega));(have D:((bytes s).drop i).length=s.size-i:=by rw[gY,cm]);(have I:((bytes s).drop i).getD 0 0≠32:=by intro h;apply hb;unfold ac;rw[gR,qH,jD,<-gR]at h;show((bytes s).getD i 0).toNat=32;rw[h];rfl);revert h0;unfold dC;rw[mm,mm,N];generalize(bytes s).drop i=r at *;split
 ·rename_i h;intro _;rw[hd];obtain⟨k,U,M⟩:=rn h.2;have O:=mZ M;rw[uR.1]at U;have hl:=h.1;clear h M hd N;rcases r with _|⟨a,_|⟨b,_|⟨c,q⟩⟩⟩
  ·simp at D;omega
  ·simp at D;omega
  ·simp at D;omega
  ·(have J:a≠32:=by simpa using I);have:=L6 k (by omega) a b c (by simpa using O) J;simp only[qg,qL,qS,qJ,vE,not_or];exact⟨fun e=>J e.symm,fun e=>this.1 e.symm,fun e=>this.2 e.symm⟩
 ·split
  ·rename_i h;intro _;rw[hd];obtain⟨k,U,M⟩:=rn h.2;have O:=mZ M;rw[uR.2]at U;have hl:=h.1;clear h M hd N;rcases r with _|⟨a,_|⟨b,q⟩⟩
   ·simp at D;omega
   ·simp at D;omega
   ·(have J:a≠32:=by simpa using I);have:=L7 k (by omega) a b (by simpa using O) J;simp only[qg,qL,qS,qJ,vE,not_or];exact⟨fun e=>J e.symm,fun e=>this e.symm⟩
  ·split
   ·rename_i h;intro _;rw[hd];have hl:=h.1;clear h hd N;rcases r with _|⟨a,q⟩
    ·simp at D;omega
    ·(have J:a≠32:=by simpa using I);simp only[qg,qL,qS,qJ,vE];exact fun e=>J e.symm
   ·intro h;exact absurd rfl h
theorem pW{α:Type}(p:α->Bool):∀(l:List α)(x:α),x∈l.takeWhile p->p x=true
 |[],x,h=>by simp at h
 | y::l,x,h=>by
  rw[qB]at h;split at h
  ·rename_i D;rcases List.mem_cons.1 h with rfl|h
   ·exact D
   ·exact pW p l x h
  ·simp at h
theorem E9(s:ByteArray)(i:Nat):(32:UInt8)∉bytes (s.extract i (i+bQ (s.data.toList.drop i))):=by rw[ez];show(32:UInt8)∉((bytes s).drop i).take (i+bQ ((bytes s).drop i)-i);generalize(bytes s).drop i=r;rw[show i+bQ r-i=bQ r by omega];unfold bQ;intro h;(have e:r.take (r.takeWhile fun c=>aL (c.toNat:Int)).length=r.takeWhile fun c=>aL (c.toNat:Int):=by have:=List.takeWhile_prefix (p:=fun c:UInt8=>aL (c.toNat:Int)) (l:=r);exact(List.prefix_iff_eq_take.1 this).symm);rw[e]at h;exact absurd (pW _ _ _ h) (by decide)
def KD(t:cO):Prop:=t.kind=2->bM t.text=1
theorem TF(x:ByteArray)(p:Int):KD ⟨6,x,p⟩:=fun h=>absurd (show(6:Int)=2 from h) (by decide)
theorem GN(s:ByteArray)(i:Nat)(l:List cO)(j:Nat)(l':List cO)(h:ey s i l=.go j l'):l'=l\/∃t,l'=l++[t]/\t.pos=(i:Int)/\NB t/\KD t:=by
 have N:∀p:Int,dY l p=l\/dY l p=l++[⟨6,⟨#[10]⟩,p⟩]:=fun p=>by
  unfold dY;split
  ·exact .inr rfl
  ·exact .inl rfl
 have I:∀p:Int,NB ⟨6,⟨#[10]⟩,p⟩:=fun p=>.inr (by show(32:UInt8)∉([10]:List UInt8);decide);unfold ey at h;split at h
 ·injection h with _ h;exact .inl h.symm
 ·split at h
  ·injection h with _ h;subst h;exact(N _).imp id fun e=>⟨_,e,rfl,I _,TF _ _⟩
  ·split at h
   ·injection h with _ h;exact .inl h.symm
   ·rename_i M;cases D:fR s i l with
    | some r=>
     rw[D]at h;have h:r=.go j l':=h;subst h;unfold fR at D;split at D
     ·injection D with D;injection D with _ e2;exact .inl e2.symm
     ·split at D
      ·split at D
       ·injection D with D;cases D
       ·injection D with D;injection D with _ e2;subst e2;split
        ·exact(N _).imp id fun e=>⟨_,e,rfl,I _,TF _ _⟩
        ·exact .inl rfl
      ·cases D
    | none=>
     rw[D]at h;simp only at h;split at h
     ·injection h with _ h;exact .inr ⟨_,h.symm,rfl,.inr (E9 s i),fun e=>by have e:bM (s.extract i (i+bQ (s.data.toList.drop i)))+1=2:=e;show bM (s.extract i (i+bQ (s.data.toList.drop i)))=1;omega⟩
     ·split at h
      ·injection h with _ h;exact .inr ⟨_,h.symm,rfl,.inr (E9 s i),fun e=>absurd (show(4:Int)=2 from e) (by decide)⟩
      ·split at h
       ·unfold rN at h;split at h
        ·injection h with _ h;exact .inr ⟨_,h.symm,rfl,.inl rfl,fun e=>absurd (show(5:Int)=2 from e) (by decide)⟩
        ·cases h
       ·unfold lQ at h;split at h
        ·cases h
        ·rename_i J;injection h with _ h;exact .inr ⟨_,h.symm,rfl,.inr (Pj s i (fun e=>M (.inl e)) J),TF _ _⟩
structure sa(i:Nat)(l:List cO):Prop where
 nb:∀t∈l,NB t
 at_:∀t∈l,0<=t.pos/\t.pos<=(i:Int)
 up:l.Pairwise fun a b=>a.pos<=b.pos
 kd:∀t∈l,KD t
theorem sa.le{i j:Nat}{l:List cO}(h:sa i l)(D:i<=j):sa j l:=⟨h.nb,fun t ht=>by have:=h.at_ t ht;omega,h.up,h.kd⟩
theorem sa.push{i j:Nat}{l:List cO}{t:cO}(h:sa i l)(M:i<=j)(N:t.pos=(i:Int))(I:NB t)(J:KD t):sa j (l++[t]):=by
 refine⟨fun u D=>?_,fun u D=>?_,?_,fun u D=>?_⟩
 ·rcases List.mem_append.1 D with D|D
  ·exact h.nb u D
  ·(obtain rfl:u=t:=by simpa using D);exact I
 ·rcases List.mem_append.1 D with D|D
  ·have:=h.at_ u D;omega
  ·(obtain rfl:u=t:=by simpa using D);omega
 ·rw[List.pairwise_append];refine⟨h.up,List.pairwise_singleton _ _,fun a ha b hb=>?_⟩;(obtain rfl:b=t:=by simpa using hb);have:=(h.at_ a ha).2;omega
 ·rcases List.mem_append.1 D with D|D
  ·exact h.kd u D
  ·(obtain rfl:u=t:=by simpa using D);exact J
theorem uS(s:ByteArray)(hs:s.size<=65536):∀(g i:Nat)(l r:List cO),i<=s.size->lR i l->sa i l->dG s g i l=.ok r->sa s.size r
 |0,_,_,_,_,_,_,h=>by cases h
 | g+1,i,l,r,hi,M,I,h=>by
  unfold dG at h;split at h
  ·rename_i J;cases D:ey s i l with
   |go j l'=>
    rw[D]at h;obtain⟨h1,h2,h3⟩:=rP s i l hs J M j l' D;refine uS s hs g j l' r h2 h3 ?_ h;rcases GN s i l j l' D with rfl|⟨t,rfl,N,O,U⟩
    ·exact I.le (by omega)
    ·exact I.push (by omega) N O U
   |bad p=>rw[D]at h;cases h
  ·injection h with h;subst h;unfold dY;split
   ·(have he:i=s.size:=by omega);subst he;exact I.push (gA _) rfl (.inr (by show(32:UInt8)∉([10]:List UInt8);decide)) (TF _ _)
   ·exact I.le hi
theorem GO{s:ByteArray}{L:List cO}(h:fy s=.toks L):sa s.size L:=by
 unfold fy at h;split at h
 ·cases h
 ·split at h
  ·cases h
  ·cases hs:dG s (s.size+1) 0 []with
   |ok l=>rw[hs]at h;injection h with h;subst h;exact uS s (by omega) _ 0 [] l (gP _) ⟨by simp,fun t ht=>by simp at ht⟩ ⟨fun t ht=>by simp at ht,fun t ht=>by simp at ht,List.Pairwise.nil,fun t ht=>by simp at ht⟩ hs
   |bad p=>rw[hs]at h;cases h
def bS(b:UInt8):It:=.tok 6 [b]
def iV(x:ByteArray):It:=.tok 6 (bytes x)
def lJ(x:ByteArray):It:=.tok 2 (bytes x)
def mK(x:ByteArray):It:=.tok 1 (bytes x)
def bu:It:=.gap 32
def dk(s:List It):List (List It)->List It
 |[]=>[]
 |[x]=>x
 |x::y::r=>x++(s++dk s (y::r))
def cG:List It:=[bS 44,bu]
abbrev bc(n:Nd)(i:Nat):Nd:=n.kids.getD i bX
def mz(n:Nat):List It:=List.replicate n (.gap 9)
def yk(n:Nat):UInt8:=UInt8.ofNat (if n<10 then 48+n else 87+n)
def ce(b:UInt8):List UInt8:=
 if b=34 then[92,34]else if b=92 then[92,92]else if b=10 then[92,110]else if b=9 then[92,116]
 else if 32<=b.toNat/\b.toNat<=126 then[b]else[92,120,yk (b.toNat/16),yk (b.toNat%16)]
def bW(s:List UInt8):List UInt8:=34::s.flatMap ce++[34]
def dx(x:ByteArray):List It:=if x=(⟨#[]⟩:BA)then[]else[mK x,bu]
def fm(f:Nd->List It)(n:Nd):List It:=
 bS 40::(dk cG ((bc n 0).kids.map fun p=>dx p.text++f (bc p 0))++(bS 41::(if(bc n 1).kind=0 then[]else bu::f (bc n 1))))
def nY(f:Nd->List It)(l:List Nd):List It:=if l=[]then[]else bS 91::(dk cG (l.map f)++[bS 93])
def Fd(x:ByteArray):List It:=if x=(⟨#[]⟩:BA)then[]else[bS 126]
def Ee(f:Nd->List It)(n:Nd):List It:=lJ ⟨#[105,110,116,101,114,102,97,99,101]⟩::bS 123::bu::(dk [bu,bS 124,bu] (n.kids.map fun t=>Fd t.text++f (bc t 0))++[bu,bS 125])
def am:Nat->Nd->List It
 |0,_=>[]
 |g+1,n=>
  if n.kind=11 then bS 91::bS 93::am g (bc n 0)
  else if n.kind=12 then lJ ⟨#[102,117,110,99]⟩::fm (am g) n
  else if n.kind=14 then Ee (am g) n
  else mK n.text::nY (am g) n.kids
structure CI where
 typ:Nd->List It
 expr:Nd->Nat->Bool->List It
 block:Nd->Nat->List It
 stmt:Nd->Nat->Bool->List It
def bR(x:ByteArray):Nat:=if x=(⟨#[124,124]⟩:BA)then 1 else if x=(⟨#[38,38]⟩:BA)then 2 else if x=(⟨#[43]⟩:BA)\/x=(⟨#[45]⟩:BA)then 4 else if x=(⟨#[42]⟩:BA)\/x=(⟨#[47]⟩:BA)\/x=(⟨#[37]⟩:BA)then 5 else 3
section
variable (F:CI)
def aK(yes:Bool)(n:Nd)(deep:Nat)(head:Bool):List It:=if yes=true then bS 40::(F.expr n deep false++[bS 41])else F.expr n deep head
def dy(deep:Nat)(x:Nd):List It:=if x.kind=11\/x.kind=12 then F.typ x else F.expr x deep false
def dq(n:Nd)(deep:Nat):List It:=dk cG ((n.kids.drop 1).map (dy F deep))
def eG(n x:Nd):Bool:=decide (x.kind=20)||(decide (x.kind=19)&&(decide (n.text=(⟨#[45]⟩:BA))&&decide (x.text=(⟨#[45]⟩:BA))))
def eH(n x:Nd):Bool:=decide (x.kind=20)&&decide (bR x.text<bR n.text)
def ei(n x:Nd):Bool:=decide (x.kind=20)&&decide (bR x.text<=bR n.text)
def da(x:Nd):Bool:=decide (x.kind=19)||decide (x.kind=20)
def nZ(n:Nd)(deep:Nat):List It:=F.typ (bc n 0)++(bS 123::(dq F n deep++[bS 125]))
def mA(n:Nd)(deep:Nat)(head:Bool):List It:=
 if n.kind=16 then[.tok 4 (bytes n.text)]
 else if n.kind=17 then[.tok 5 (bW (bytes n.text))]
 else if n.kind=18 then[mK n.text]
 else if n.kind=19 then iV n.text::aK F (eG n (bc n 0)) (bc n 0) deep head
 else if n.kind=20 then aK F (eH n (bc n 0)) (bc n 0) deep head++(bu::iV n.text::bu::aK F (ei n (bc n 1)) (bc n 1) deep head)
 else if n.kind=21 then aK F (da (bc n 0)) (bc n 0) deep head++(bS 40::(dq F n deep++[bS 41]))
 else if n.kind=22 then aK F (da (bc n 0)) (bc n 0) deep head++(bS 91::(dq F n deep++[bS 93]))
 else if n.kind=23 then aK F (da (bc n 0)) (bc n 0) deep head++[bS 46,mK n.text]
 else if n.kind=24 then if head=true/\(bc n 0).kind=10 then bS 40::(nZ F n deep++[bS 41])else nZ F n deep
 else lJ ⟨#[102,117,110,99]⟩::(fm F.typ (bc n 0)++(bu::F.block (bc n 1) deep))
def oE(n:Nd)(deep:Nat):List It:=bS 123::.gap 10::(n.kids.flatMap (fun x=>mz (deep+1)++(F.stmt x (deep+1) false++[.nl]))++(mz deep++[bS 125]))
def sU(n:Nd)(deep:Nat):List It:=
 lJ ⟨#[118,97,114]⟩::bu::mK n.text::((if(bc n 0).kind=0 then[]else bu::F.typ (bc n 0))++(if(bc n 1).kind=0 then[]else bu::bS 61::bu::F.expr (bc n 1) deep false))
def fB(x:ByteArray):List It:=
 if x=(⟨#[]⟩:BA)then[]else
 (if(fj x).2.2=true then[.tok 1 (fj x).1,bS 44,bu,.tok 1 (fj x).2.1]else[.tok 1 (fj x).1])++[bu,iV ⟨#[58,61]⟩,bu]
def ep(n:Nd)(deep:Nat)(head:Bool):List It:=
 if n.kind=26 then mK n.text::bu::iV ⟨#[58,61]⟩::bu::F.expr (bc n 0) deep head
 else if n.kind=27 then F.expr (bc n 0) deep head++(bu::bS 61::bu::F.expr (bc n 1) deep head)
 else if n.kind=28 then F.expr (bc n 0) deep head++[iV n.text]
 else F.expr (bc n 0) deep head
def sc(n:Nd)(deep:Nat):List It:=
 if(bc n 0).kind≠0\/(bc n 2).kind≠0 then
  (if(bc n 0).kind≠0 then ep F (bc n 0) deep true else[])++(bS 59::bu::((if(bc n 1).kind≠0 then F.expr (bc n 1) deep true else[])++(bS 59::bu::(if(bc n 2).kind≠0 then ep F (bc n 2) deep true++[bu]else[]))))
 else if(bc n 1).kind≠0 then F.expr (bc n 1) deep true++[bu]else[]
def ch(n:Nd)(deep:Nat)(head:Bool):List It:=
 if n.kind=5 then sU F n deep
 else if n.kind=26 then mK n.text::bu::iV ⟨#[58,61]⟩::bu::F.expr (bc n 0) deep head
 else if n.kind=27 then F.expr (bc n 0) deep head++(bu::bS 61::bu::F.expr (bc n 1) deep head)
 else if n.kind=28 then F.expr (bc n 0) deep head++[iV n.text]
 else if n.kind=29 then F.expr (bc n 0) deep head
 else if n.kind=30 then lJ ⟨#[105,102]⟩::bu::(F.expr (bc n 0) deep true++(bu::(F.block (bc n 1) deep++(if(bc n 2).kind=0 then[]else bu::lJ ⟨#[101,108,115,101]⟩::bu::F.stmt (bc n 2) deep false))))
 else if n.kind=31 then lJ ⟨#[102,111,114]⟩::bu::(sc F n deep++F.block (bc n 3) deep)
 else if n.kind=32 then lJ ⟨#[102,111,114]⟩::bu::(fB n.text++(lJ ⟨#[114,97,110,103,101]⟩::bu::(F.expr (bc n 0) deep true++(bu::F.block (bc n 1) deep))))
 else if n.kind=33 then lJ ⟨#[114,101,116,117,114,110]⟩::(if(bc n 0).kind=0 then[]else bu::F.expr (bc n 0) deep false)
 else if n.kind=34 then[lJ ⟨#[98,114,101,97,107]⟩]
 else if n.kind=35 then[lJ ⟨#[99,111,110,116,105,110,117,101]⟩]
 else oE F n deep
end
theorem n7(F:CI){n:Nd}(D:26<=n.kind/\n.kind<=29)(deep:Nat)(head:Bool):ch F n deep head=ep F n deep head:=by
 unfold ch ep;rw[d5 (by omega)];split
 ·rfl
 ·split
  ·rfl
  ·split
   ·rfl
   ·rw[gF (by omega)]
def ao:Nat->CI
 |0=>⟨fun _=>[],fun _ _ _=>[],fun _ _=>[],fun _ _ _=>[]⟩
 |g+1=>⟨am (g+1),mA (ao g),oE (ao g),ch (ao g)⟩
def pX(r:List UInt8):Nat:=
 if 3<=r.length/\contains (32::bytes oC++[32]) (32::r.take 3++[32])=true then 3
 else if 2<=r.length/\contains (32::bytes oP++[32]) (32::r.take 2++[32])=true then 2
 else if 1<=r.length/\contains (32::bytes sN++[32]) (32::r.take 1++[32])=true then 1
 else 0
theorem Ef(s:ByteArray)(i:Nat):bytes (s.extract i s.size)=(bytes s).drop i:=by rw[ez];exact jA (by rw[gY,cm];omega)
theorem AN(s:ByteArray)(i:Nat):dC s i=pX ((bytes s).drop i):=by unfold dC pX;rw[mm,mm,mm,Ef,gY,cm]
section
variable {s s':ByteArray} {k:Nat}
variable {base:List cO} (hb:eg base=false)
include hb
end
theorem tG(s:ByteArray)(i:Nat):ac s i=((bytes s).getD i 0).toNat:=rfl
section
variable {s s':ByteArray} {k:Nat}
end
theorem mL(s:ByteArray):∀(g i:Nat),(∀j,i<=j->j<s.size->0<ac s j/\ac s j<128)->ig s g i=none
 |0,_,_=>rfl
 |g+1,i,h=>by
  rw[ig];split
  ·rename_i D;obtain⟨J,I⟩:=h i (gA _) D;rw[ld s i I,d5 (by simp only;omega)];exact mL s g (i+1) fun j hj hl=>h j (by omega) hl
  ·rfl
def dr:List ByteArray:=[(⟨#[43]⟩:BA),(⟨#[45]⟩:BA),(⟨#[42]⟩:BA),(⟨#[47]⟩:BA),(⟨#[37]⟩:BA),(⟨#[61,61]⟩:BA),(⟨#[33,61]⟩:BA),(⟨#[60]⟩:BA),(⟨#[60,61]⟩:BA),(⟨#[62]⟩:BA),(⟨#[62,61]⟩:BA),(⟨#[38,38]⟩:BA),(⟨#[124,124]⟩:BA)]
theorem El{l sub:List UInt8}{i:Nat}(h:occAt l sub i=true):∃r,l.drop i=sub++r:=by unfold occAt at h;simp at h;exact⟨_,(List.prefix_iff_eq_append.1 h).symm⟩
theorem AZ{l sub:List UInt8}(h:Lib.contains l sub=true):∃i,i<=l.length/\occAt l sub i=true:=by
 unfold Lib.contains at h;rw[gK]at h;rcases index_spec l sub with⟨e,_⟩|⟨i,_,I,D,_⟩
 ·omega
 ·exact⟨i,I,D⟩
theorem yl(l:List UInt8)(c:UInt8):Lib.contains l [c]=l.contains c:=by unfold Lib.contains;rw[index_one,contains_iff_indexByte]
theorem mr{p:UInt8->Bool}:∀{l r:List UInt8}{c:UInt8},(∀x∈l,p x=true)->p c=false->(l++c::r).takeWhile p=l
 |[],r,c,_,D=>by simp[D]
 |x::l,r,c,h,D=>by have I:=h x (by simp);rw[jP,qB,gF I,mr (fun y hy=>h y (by simp[hy])) D]
theorem Em:∀i,i<=60->(32::f7)[i]? = some 32->(dr.map (·.data.toList)).contains (((32::f7).drop (i+1)).takeWhile (fun c=>c != 32))=true\/((32::f7).drop (i+1)).takeWhile (fun c=>c != 32)=[]:=by decide +kernel
theorem rt(s:ByteArray):cU s=dr.any fun x=>decide (s=x):=by
 rw[kQ];constructor
 ·intro h;unfold cU at h;rw[gB,gB,gK,qv]at h;obtain⟨h0,N,h2⟩:=h;rw[yl]at N;obtain⟨i,hi,ho⟩:=AZ h2;obtain⟨r,O⟩:=El ho;(have M:(32::f7)[i]? = some 32:=by have:=jM (fun l=>l[0]?) O;simpa using this);(have hd:(32::f7).drop (i+1)=s.data.toList++32::r:=by have:=jM (fun l=>l.drop 1) O;simpa[List.drop_drop,Nat.add_comm]using this);(have J:∀x∈s.data.toList,(x != 32)=true:=by intro x D;rw[kZ];rintro rfl;rw[List.contains_eq_mem,gJ]at N;exact N D);(have U:(32::f7).length<=60:=by decide +kernel);rcases Em i (by omega) M with I|I
  ·rw[hd,mr J (by decide),List.contains_eq_mem,gK,List.mem_map]at I;obtain⟨x,D,e⟩:=I;rw[qV];refine⟨x,D,?_⟩;rw[gK];apply qU;exact Array.toList_inj.1 e.symm
  ·rw[hd,mr J (by decide)]at I;exact absurd (by apply qU;exact Array.toList_inj.1 I) h0
 ·intro h;rw[qV]at h;obtain⟨x,D,e⟩:=h;rw[gK]at e;subst e;(have:∀x∈dr,cU x=true:=by decide +kernel);exact this s D
theorem Bh(s:List UInt8)(h:(cut s [44]).2.2=true):s=(cut s [44]).1++44::(cut s [44]).2.1:=by
 unfold cut at h |-;split
 ·rename_i D;rw[index_one]at D |-;obtain⟨o,I⟩:=Int.eq_ofNat_of_zero_le D;have M:=(indexByte_some I).1;rw[I];show s=s.take o++44::s.drop (o+1);obtain⟨N,J⟩:=List.getElem?_eq_some_iff.1 M;rw[<-J,List.getElem_cons_drop,va]
 ·rename_i D;rw[d5 D]at h;cases h
theorem Et(s:List UInt8)(h:(cut s [44]).2.2=false):(cut s [44]).1=s:=by
 unfold cut at h |-;split
 ·rename_i D;rw[gF D]at h;cases h
 ·rfl
def sz:List It->Nat
 |[]=>0
 |a::l=>(Tf a).length+sz l
theorem RF:∀l,(fX l).length=sz l
 |[]=>rfl
 |a::l=>by rw[cD,gL,RF l,sz]
theorem dI:∀l m,sz (l++m)=sz l+sz m
 |[],m=>by simp[sz]
 |a::l,m=>by simp[sz,dI l m,Nat.add_assoc]
theorem fF:sz []=0:=rfl
theorem iU(b l):sz (bS b::l)=1+sz l:=rfl
theorem p8(l):sz (bu::l)=1+sz l:=rfl
theorem By(b l):sz (.gap b::l)=1+sz l:=rfl
theorem TD(l):sz (.nl::l)=1+sz l:=rfl
theorem Ak(x l):sz (mK x::l)=x.size+sz l:=rfl
theorem Ds(x l):sz (iV x::l)=x.size+sz l:=rfl
theorem wZ(x l):sz (lJ x::l)=x.size+sz l:=rfl
mutual
def oG:Nd->Nat
 | .mk _ t l _=>sG l+(4*t.size+10000)
def sG:List Nd->Nat
 |[]=>0
 |n::l=>oG n+sG l
end
theorem fW(n:Nd):oG n=sG n.kids+(4*n.text.size+10000):=by obtain⟨k,t,l,a⟩:=n;rw[oG];rfl
theorem ya(s:List It)(f:Nd->List It):∀l:List Nd,(∀x∈l,sz (f x)+sz s<=oG x)->sz (dk s (l.map f))<=sG l
 |[],_=>by simp[dk,sz]
 |[x],h=>by have:=h x (by simp);show sz (f x)<=_;rw[sG];omega
 |x::y::l,h=>by have:=h x (by simp);have ih:=ya s f (y::l) fun z hz=>h z (qq _ hz);show sz (f x++(s++dk s ((y::l).map f)))<=_;rw[dI,dI,sG];omega
theorem Bz(f:Nd->List It):∀l:List Nd,(∀x∈l,sz (f x)<=oG x)->sz (l.flatMap f)<=sG l
 |[],_=>by simp[sz]
 |x::l,h=>by have:=h x (by simp);have ih:=Bz f l fun z hz=>h z (qq _ hz);rw[jH,dI,sG];omega
theorem BB(n:Nd)(f0 f1 f2 f3:Nd->Nat)(D:f0 bX<=1100/\f1 bX<=1100/\f2 bX<=1100/\f3 bX<=1100)(h:∀x,f0 x<=oG x/\f1 x<=oG x/\f2 x<=oG x/\f3 x<=oG x):
  f0 (bc n 0)+f1 (bc n 1)+f2 (bc n 2)+f3 (bc n 3)<=sG n.kids+4400:=by
 unfold bc;rcases n.kids with _|⟨a,_|⟨b,_|⟨c,_|⟨d,l⟩⟩⟩⟩
 ·show f0 bX+f1 bX+f2 bX+f3 bX<=_;omega
 ·have:=h a;show f0 a+f1 bX+f2 bX+f3 bX<=_;simp only[sG];omega
 ·have:=h a;have:=h b;show f0 a+f1 b+f2 bX+f3 bX<=_;simp only[sG];omega
 ·have:=h a;have:=h b;have:=h c;show f0 a+f1 b+f2 c+f3 bX<=_;simp only[sG];omega
 ·have:=h a;have:=h b;have:=h c;have:=h d;show f0 a+f1 b+f2 c+f3 d<=_;simp only[sG];omega
theorem Od(n:Nd)(f:Nd->Nat)(D:f bX<=1100)(h:∀x,f x<=oG x):f (bc n 0)+sG (n.kids.drop 1)<=sG n.kids+1100:=by
 unfold bc;cases n.kids with
 |nil=>exact kC (Nat.add_le_add_right D _) (by simp[sG])
 |cons a l=>have:=h a;show f a+sG l<=_;rw[sG];omega
theorem rD(n:Nd)(f g:Nd->Nat)(I:f bX<=1100)(D:g bX<=1100)(h:∀x,f x<=oG x)(h':∀x,g x<=oG x):f (bc n 0)+g (bc n 1)<=sG n.kids+4400:=by have:=BB n f g (fun _=>0) (fun _=>0) ⟨I,D,by omega,by omega⟩ fun x=>⟨h x,h' x,gP _,gP _⟩;omega
theorem EO(n:Nd)(f:Nd->Nat)(D:f bX<=1100)(h:∀x,f x<=oG x):f (bc n 0)<=sG n.kids+4400:=by have:=rD n f (fun _=>0) D (gP _) h fun _=>gP _;omega
theorem BC:∀n,sz (mz n)=n
 |0=>rfl
 |n+1=>by have:=BC n;show 1+sz (mz n)=_;omega
theorem Rh(x:ByteArray):sz (dx x)<=x.size+1:=by
 unfold dx;split
 ·exact gP _
 ·exact gA _
theorem Oe(x:ByteArray):(bW (bytes x)).length<=4*x.size+2:=by
 have:∀l:List UInt8,(l.flatMap ce).length<=4*l.length:=by
  intro l;induction l with
  |nil=>exact gA _
  |cons b l ih=>(have:(ce b).length<=4:=by unfold ce;(repeat' split);all_goals simp);rw[jH,gL,gS];omega
 have:=this (bytes x);rw[cm]at this;unfold bW;show(_++[34]).length+1<=_;rw[gL];show _+1+1<=_;omega
theorem Of(x:ByteArray):sz (fB x)<=x.size+6:=by
 unfold fB;split
 ·exact gP _
 ·split
  ·rename_i h;have:=jM List.length (Bh x.data.toList h);rw[gL,gS,cm x]at this;show(fj x).1.length+(1+(1+((fj x).2.1.length+4)))<=_;unfold fj;omega
  ·rename_i h;have:=Et x.data.toList (by simpa[fj]using h);show(fj x).1.length+4<=_;unfold fj;rw[this];show x.size+4<=_;omega
def Th(f:Nd->List It):Prop:=sz (f bX)=0/\∀n,sz (f n)+100<=oG n
theorem Th.le{f:Nd->List It}(h:Th f)(n:Nd):sz (f (bc n 0))<=sG n.kids+4400:=EO _ (fun x=>sz (f x)) (by rw[h.1];omega) fun x=>by have:=h.2 x;omega
theorem EP{f:Nd->List It}(h:Th f)(n:Nd):sz (fm f n)+5000<=oG n:=by(have D:∀x:Nd,sz (dk cG (x.kids.map fun p=>dx p.text++f (bc p 0)))<=oG x:=fun x=>by(have:=ya cG (fun p=>dx p.text++f (bc p 0)) x.kids fun p _=>by have:=h.le p;have:=Rh p.text;have:=fW p;rw[dI];show _+2<=_;omega);have:=fW x;omega);(have:=rD n (fun x=>sz (dk cG (x.kids.map fun p=>dx p.text++f (bc p 0)))) (fun x=>sz (f x)) (gP _) (by rw[h.1];omega) D fun x=>by have:=h.2 x;omega);have:=fW n;unfold fm;split<;>simp only[fF,dI,iU,p8]<;>omega
theorem Og{f:Nd->List It}(h:Th f)(n:Nd):sz (Ee f n)+5000<=oG n:=by(have:=ya [bu,bS 124,bu] (fun t=>Fd t.text++f (bc t 0)) n.kids fun p _=>by have:=h.le p;have:=fW p;(have:sz (Fd p.text)<=1:=by unfold Fd;split<;>simp[sz,Tf,bS]);rw[dI];show _+3<=_;omega);have:=fW n;unfold Ee;simp only[fF,dI,iU,p8,wZ,show((⟨#[105,110,116,101,114,102,97,99,101]⟩:BA).size=9)from rfl];omega
theorem Ta{f:Nd->List It}(h:∀n,sz (f n)+100<=oG n)(l:List Nd):sz (nY f l)<=sG l+2:=by
 (have:=ya cG f l fun p _=>by have:=h p;show _+2<=_;omega);unfold nY;split
 ·exact gP _
 ·simp only[fF,dI,iU];omega
theorem Oh:∀d,Th (am d)
 |0=>⟨rfl,fun n=>by have:=fW n;show 0+100<=_;omega⟩
 |d+1=>by have ih:=Oh d;refine⟨rfl,fun n=>?_⟩;have:=fW n;have:=ih.le n;have:=EP ih n;have:=Og ih n;have:=Ta ih.2 n.kids;unfold am;(repeat' split);all_goals(try simp only[iU,Ak,wZ,show((⟨#[102,117,110,99]⟩:BA).size=4)from rfl]);omega
end
section
def sT(x:ByteArray):Nat:=(bytes x).count 32
theorem dj(x y:ByteArray):sT (x++y)=sT x+sT y:=by unfold sT;rw[aO,List.count_append]
theorem nA{t:cO}(h:NB t)(D:t.kind≠5):sT t.text=0:=List.count_eq_zero.2 (h.resolve_left D)
theorem Tp{c:Cx}(h:∀t∈c.toks,NB t):∀s x s',bN c s=some (x,s')->s'.at_<=c.toks.length:=by
 intro s x s' J;unfold bN at J;simp only at J;split at J
 ·rename_i he;injection J with J;injection J with _ J;subst J;exact Pg he
 ·split at J
  ·rename_i a b d r hl;(have M:(c.toks.drop s.at_).length=r.length+3:=by rw[hl];simp);rw[gY]at M;split at J
   ·injection J with J;injection J with _ J;subst J;show s.at_+3<=_;omega
   ·split at J
    ·rename_i h3;injection J with J;injection J with _ J;subst J;show s.at_+5<=_;obtain⟨ha,hd,-,I⟩:=h3;have O:∀t,t∈a::b::d::r->NB t:=fun t ht=>h t (vd (i:=s.at_) (by rw[hl];exact ht));have ba:=nA (O a (by simp)) (by omega);have bd:=nA (O d (by simp)) (by omega);(have D:sT (a.text++(⟨#[32,44,32]⟩:BA)++d.text++(⟨#[32,58,61,32,114,97,110,103,101]⟩:BA))=4:=by rw[dj,dj,dj,ba,bd];decide);(have N:4<=(a.text++(⟨#[32,44,32]⟩:BA)++d.text++(⟨#[32,58,61,32,114,97,110,103,101]⟩:BA)).size:=by rw[<-cm,<-D];exact List.count_le_length);rw[hl]at I
     match r,M,I,O with
     |[],_,I,O=>
      exfalso;unfold dg at I;split at I
      ·rw[<-I]at N;have:(0:Nat)>=4:=N;omega
      ·rename_i h5;(have U:b.kind≠5:=by intro hb;apply h5;simp[hb]);have bb:=nA (O b (by simp)) U;rw[<-I]at D;simp only[qg,List.take_nil,vr,List.foldl_nil]at D;rw[dj,dj,dj,dj,ba,bb,bd]at D;revert D;decide
     |[e],_,I,O=>
      exfalso;unfold dg at I;split at I
      ·rw[<-I]at N;have:(0:Nat)>=4:=N;omega
      ·rename_i h5;(have U:b.kind≠5:=by intro hb;apply h5;simp[hb]);(have ga:e.kind≠5:=by intro hb;apply h5;simp[hb]);have bb:=nA (O b (by simp)) U;have be:=nA (O e (by simp)) ga;rw[<-I]at D;simp only[qg,List.take_nil,vr,List.foldl_nil]at D;rw[dj,dj,dj,dj,dj,dj,ba,bb,bd,be]at D;revert D;decide
     |_::_::_,M,_,_=>simp only[gS]at M;omega
    ·cases J
  ·cases J
theorem FY(d:Nat):Th (ao d).typ:=by have h:=Oh d;cases d<;>exact h
theorem Ri(d deep:Nat):sz ((ao d).block bX deep)<=deep+3:=by
 cases d with
 |zero=>exact gP _
 |succ d=>show sz (bS 123::.gap 10::([]++(mz deep++[bS 125])))<=_;simp only[fF,dI,iU,By,BC];omega
theorem TE(d deep:Nat)(head:Bool):sz ((ao d).expr bX deep head)<=deep+10:=by
 have:=Ri (d-1) deep;cases d with
 |zero=>exact gP _
 |succ d=>show sz (lJ ⟨#[102,117,110,99]⟩::((bS 40::([]++(bS 41::[])))++(bu::(ao d).block bX deep)))<=_;simp only[fF,dI,iU,p8,wZ,show((⟨#[102,117,110,99]⟩:BA).size=4)from rfl];rw[Nat.add_sub_cancel]at this;omega
theorem TT(d deep:Nat)(head:Bool):sz ((ao d).stmt bX deep head)<=deep+3:=by
 cases d with
 |zero=>exact gP _
 |succ d=>exact Ri (d+1) deep
theorem Oi{p:Prop}[Decidable p]{l m:List It}{c k:Nat}(I:sz l+c<=k)(D:sz m+c<=k):sz (if p then l else m)+c<=k:=by split<;>assumption
def TX(d:Nat):Prop:=∀deep,deep+d<=1000->(∀n head,sz ((ao d).expr n deep head)+100<=oG n)/\(∀n,sz ((ao d).block n deep)+100<=oG n)/\∀n head,sz ((ao d).stmt n deep head)+1100<=oG n
theorem Oj{d deep:Nat}(hd:deep+d<=1000)(hE:∀n head,sz ((ao d).expr n deep head)+100<=oG n)(yes head:Bool):sz (aK (ao d) yes bX deep head)<=1100/\∀x,sz (aK (ao d) yes x deep head)<=oG x:=by
 have h:∀x c,(∀head,sz ((ao d).expr x deep head)+2<=c)->sz (aK (ao d) yes x deep head)<=c:=by
  intro x c h;have:=h false;have:=h head;unfold aK;split
  ·simp only[fF,dI,iU];omega
  ·omega
 exact⟨h _ _ fun head=>by have:=TE d deep head;omega,fun x=>h _ _ fun head=>by have:=hE x head;omega⟩
theorem Tb{d deep:Nat}(hd:deep+d<=1000)(hE:∀n head,sz ((ao d).expr n deep head)+100<=oG n)(hB:∀n,sz ((ao d).block n deep)+100<=oG n)(n:Nd)(head:Bool):sz (mA (ao d) n deep head)+100<=oG n:=by
 have I:=FY d;have hw:=fW n;have D:=Oj hd hE;have b0:=Ri d deep;have h:=Oe n.text;have U:=EO n (fun x=>sz (aK (ao d) (eG n (bc n 0)) x deep head)) (D _ _).1 (D _ _).2;have O:=rD n (fun x=>sz (aK (ao d) (eH n (bc n 0)) x deep head)) (fun x=>sz (aK (ao d) (ei n (bc n 1)) x deep head)) (D _ _).1 (D _ _).1 (D _ _).2 (D _ _).2;have N:=Od n (fun x=>sz (aK (ao d) (da (bc n 0)) x deep head)) (D _ _).1 (D _ _).2;(have M:=Od n (fun x=>sz ((ao d).typ x)) (by rw[I.1];omega) fun x=>by have:=I.2 x;omega);(have J:=rD n (fun x=>sz (fm (ao d).typ x)) (fun x=>sz ((ao d).block x deep)) (by have:=EP I bX;rw[show oG bX=10000 from rfl]at this;show 2<=_;omega) (by omega) (fun x=>by have:=EP I x;omega) fun x=>by have:=hB x;omega);have ho:=ya cG (dy (ao d) deep) (n.kids.drop 1) fun x _=>by
  have:=I.2 x;have:=hE x false;unfold dy;split
  ·show _+2<=_;omega
  ·show _+2<=_;omega
 unfold mA nZ dq;(repeat' refine Oi ?_ ?_);all_goals(try simp only[fF,dI,iU,p8,Ak,Ds,wZ,show((⟨#[102,117,110,99]⟩:BA).size=4)from rfl]);(try simp only[sz,Tf,cm]);omega
theorem Ok{d deep:Nat}(hE:∀n head,sz ((ao d).expr n deep head)+100<=oG n)(D:∀head,sz ((ao d).expr bX deep head)<=1100)(n:Nd)(head:Bool):sz (ep (ao d) n deep head)+1100<=oG n:=by have I:=fW n;(have h:=rD n (fun x=>sz ((ao d).expr x deep head)) (fun x=>sz ((ao d).expr x deep head)) (D _) (D _) (fun x=>by have:=hE x head;omega) fun x=>by have:=hE x head;omega);unfold ep;(repeat' split);all_goals(try simp only[fF,dI,iU,p8,Ak,Ds,show((⟨#[58,61]⟩:BA).size=2)from rfl]);omega
theorem Ol{d deep:Nat}(hd:deep+d+1<=1000)(D:∀n head,sz ((ao d).stmt n (deep+1) head)+1100<=oG n)(n:Nd):sz (oE (ao d) n deep)+1100<=oG n:=by have I:=fW n;(have h:=Bz (fun x=>mz (deep+1)++((ao d).stmt x (deep+1) false++[.nl])) n.kids fun x _=>by have:=D x false;simp only[fF,dI,BC,TD];omega);unfold oE;simp only[fF,dI,iU,By,BC];omega
theorem Tc{d deep:Nat}(hE:∀n head,sz ((ao d).expr n deep head)+100<=oG n)(I:∀head,sz ((ao d).expr bX deep head)<=1100)(n:Nd):sz (sU (ao d) n deep)+1100<=oG n:=by have D:=FY d;have J:=fW n;(have h:=rD n (fun x=>sz ((ao d).typ x)) (fun x=>sz ((ao d).expr x deep false)) (by rw[D.1];omega) (I _) (fun x=>by have:=D.2 x;omega) fun x=>by have:=hE x false;omega);unfold sU;(repeat' split);all_goals simp only[fF,dI,iU,p8,Ak,wZ,show((⟨#[118,97,114]⟩:BA).size=3)from rfl];omega
theorem Td{d deep:Nat}(hd:deep+d+1<=1000)(H:TX d)(n:Nd)(head:Bool):sz (ch (ao d) n deep head)+1100<=oG n:=by
 obtain⟨hE,hB,N⟩:=H deep (by omega);(have D:∀head,sz ((ao d).expr bX deep head)<=1100:=fun head=>by have:=TE d deep head;omega);have b0:=Ri d deep;have s0:=TT d deep false;have hw:=fW n;have h5:=Tc hE D n;have I:=Ok hE D n head;have h3:=BB n (fun x=>sz ((ao d).expr x deep true)) (fun x=>sz ((ao d).block x deep)) (fun x=>sz ((ao d).stmt x deep false)) (fun _=>0) ⟨D _,by omega,by omega,by omega⟩ fun x=>⟨by have:=hE x true;omega,by have:=hB x;omega,by have:=N x false;omega,gP _⟩;have hs:=Ok hE D;have J:sz (ep (ao d) bX deep true)<=1100:=D true;have ga:=BB n (fun x=>sz (ep (ao d) x deep true)) (fun x=>sz ((ao d).expr x deep true)) (fun x=>sz (ep (ao d) x deep true)) (fun x=>sz ((ao d).block x deep)) ⟨J,D _,J,by omega⟩ fun x=>⟨by have:=hs x true;omega,by have:=hE x true;omega,by have:=hs x true;omega,by have:=hB x;omega⟩;(have U:=EO n (fun x=>sz ((ao d).expr x deep false)) (D _) fun x=>by have:=hE x false;omega);have h:=Of n.text;have O:=Ol hd (H (deep+1) (by omega)).2.2 n;unfold ep at I;(have hf:sz (sc (ao d) n deep)<=sz (ep (ao d) (bc n 0) deep true)+sz ((ao d).expr (bc n 1) deep true)+sz (ep (ao d) (bc n 2) deep true)+5:=by unfold sc;(repeat' split);all_goals simp only[fF,dI,iU,p8];omega);have gb:sz (if(bc n 2).kind=0 then[]else bu::lJ ⟨#[101,108,115,101]⟩::bu::(ao d).stmt (bc n 2) deep false)<=sz ((ao d).stmt (bc n 2) deep false)+6:=by
  split
  ·exact gP _
  ·simp only[p8,wZ,show((⟨#[101,108,115,101]⟩:BA).size=4)from rfl];omega
 have M:sz (if(bc n 0).kind=0 then[]else bu::(ao d).expr (bc n 0) deep false)<=sz ((ao d).expr (bc n 0) deep false)+1:=by
  split
  ·exact gP _
  ·simp only[p8];omega
 (have gd:=rD n (fun x=>sz ((ao d).expr x deep head)) (fun x=>sz ((ao d).expr x deep head)) (D _) (D _) (fun x=>by have:=hE x head;omega) fun x=>by have:=hE x head;omega);unfold ch;(repeat' refine Oi ?_ ?_);all_goals
  first
  |omega
  |(simp only[fF,dI,iU,p8,Ak,Ds,wZ,show((⟨#[105,102]⟩:BA).size=2)from rfl,show((⟨#[102,111,114]⟩:BA).size=3)from rfl,show((⟨#[114,97,110,103,101]⟩:BA).size=5)from rfl,show((⟨#[114,101,116,117,114,110]⟩:BA).size=6)from rfl,show((⟨#[98,114,101,97,107]⟩:BA).size=5)from rfl,show((⟨#[99,111,110,116,105,110,117,101]⟩:BA).size=8)from rfl,show((⟨#[58,61]⟩:BA).size=2)from rfl];omega)
theorem FZ:∀d,TX d
 |0=>fun deep _=>⟨fun n _=>by have:=fW n;show 0+100<=_;omega,fun n=>by have:=fW n;show 0+100<=_;omega,fun n _=>by have:=fW n;show 0+1100<=_;omega⟩
 |d+1=>fun deep hd=>by have H:=FZ d;obtain⟨hE,hB,D⟩:=H deep (by omega);exact⟨fun n head=>Tb (by omega) hE hB n head,fun n=>by have:=Ol (by omega) (H (deep+1) (by omega)).2.2 n;show sz (oE (ao d) n deep)+100<=_;omega,fun n head=>Td (by omega) H n head⟩
end
end Go.Proofs.YtiebcdeafofgdaaGreatDoor
