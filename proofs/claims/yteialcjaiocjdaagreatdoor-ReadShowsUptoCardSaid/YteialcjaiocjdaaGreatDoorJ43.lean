/-
  Parts of the proof: Pqb Pqc Pqd Pqe Psn Psa Psi Uexpr4. By an AI agent.
-/
import Derived.Test.YteialcjaiocjdaaGreatDoorJ42
import Derived.Test.YteialcjaiocjdaaGreatDoorJ35
import Derived.Test.YteialcjaiocjdaaGreatDoorJ34
import Derived.Test.YteialcjaiocjdaaGreatDoorJ15
open Go.Proofs.Tryz
set_option maxRecDepth 100000
set_option maxHeartbeats 8000000
namespace Go.Proofs.YteialcjaiocjdaaGreatDoor
section
open Go.Lib
def oO:It->Bool
 | .tok k x=>d8 x&&fH ⟨k,dx x,0⟩
 | .gap b=>decide (0<b.toNat)&&decide (b.toNat<128)
 | .nl=>true
def Gd(l:List It):Prop:=l.all oO=true
theorem Gd.app{a b:List It}(D:Gd a)(hb:Gd b):Gd (a++b):=by unfold Gd at *;rw[kU,D,hb];rfl
theorem Gd.cons{a:It}{b:List It}(D:oO a=true)(hb:Gd b):Gd (a::b):=by unfold Gd at *;rw[jX,D,hb];rfl
theorem Gd.nil:Gd []:=rfl
theorem Gd.flat{α:Type}{f:α->List It}:∀{l:List α},(∀x∈l,Gd (f x))->Gd (l.flatMap f)
 |[],_=>rfl
 |x::l,h=>by rw[jE];exact(h x (by simp)).app (Gd.flat fun y hy=>h y (by simp[hy]))
theorem Gd.sep{s:List It}(hs:Gd s):∀{L:List (List It)},(∀l∈L,Gd l)->Gd (cr s L)
 |[],_=>rfl
 |[x],h=>h x (by simp)
 |x::y::L,h=>(h x (by simp)).app (hs.app (Gd.sep hs fun l hl=>h l (by simp[hl])))
theorem Gd.opt{p:Prop}[Decidable p]{a b:List It}(D:p->Gd a)(hb:¬ p->Gd b):Gd (if p then a else b):=by
 split
 ·exact D ‹_›
 ·exact hb ‹_›
theorem wU{l:List UInt8}(h:l.all (fun c=>lI c||dY c)=true):d8 l=true/\l.all (fun c=>c != 32)=true:=by
 (have key:∀b:Fin 256,(lI (UInt8.ofNat b.val)||dY (UInt8.ofNat b.val))=true->(decide (0<(UInt8.ofNat b.val).toNat)&&decide ((UInt8.ofNat b.val).toNat<128))=true/\(UInt8.ofNat b.val != 32)=true:=by decide +kernel);unfold d8;rw[qo]at h;constructor;all_goals
  rw[qo];intro b hb;have k:=key ⟨b.toNat,b.toNat_lt⟩ (by simpa using h b hb);simp only[qU]at k;first
   |exact k.1
   |exact k.2
theorem oI{l:List UInt8}(D:aB ⟨l.toArray⟩=true):oO (.tok 1 l)=true:=by
 (have h:cO l=true:=by unfold aB dZ at D;rw[gA,gA]at D;exact D.2.1);have I:=wU (l:=l) (by
  cases l with
  |nil=>rfl
  |cons a l=>unfold cO at h;rw[gA]at h;rw[jX,h.1,h.2];rfl)
 show(d8 l&&l.all fun c=>c != 32)=true;rw[I.1,I.2];rfl
theorem ew{x:ByteArray}(D:aB x=true):oO (iq x)=true:=oI D
theorem Nt{x:ByteArray}(D:cW x=true):oO (.tok 4 (bytes x))=true:=by have h:=D;unfold cW at h;rw[gA]at h;have I:=wU (l:=bytes x) (by have:=List.all_eq_true.1 h.1;exact List.all_eq_true.2 fun b hb=>by rw[this b hb,jG]);show(d8 (bytes x)&&(cW (dx (bytes x))&&(bytes x).all fun c=>c != 32))=true;rw[I.1,I.2,cH,D];rfl
theorem IH{x:ByteArray}(h:x.size<=1000):oO (.tok 5 (dC (bytes x)))=true:=by(have D:ry (dx (dC (bytes x)))=true:=by unfold ry;rw[tV h];exact jK h);show(d8 (dC (bytes x))&&(ry (dx (dC (bytes x)))&&true))=true;rw[tU,D];rfl
theorem EY{F:cm}{f:Nd->List It}{so:ByteArray->Bool}(J:so=aB\/so=ec)(O:∀n,F.typ n=true->Gd (f n)){n:Nd}(hn:il F so n=true):Gd (eg f n):=by
 obtain⟨ps,a1,res,a,rfl,M,D⟩:=rE hn;unfold eg;refine Gd.cons (by decide +kernel) ((Gd.sep (by unfold Gd;decide +kernel) fun l hl=>?_).app (Gd.cons (by decide +kernel) (Gd.opt (fun _=>rfl) fun h=>Gd.cons (by decide) ?_)))
 ·obtain⟨p,U,rfl⟩:=List.mem_map.1 hl;obtain⟨x,l,a,rfl,I,h0⟩:=aJ (by decide) (List.all_eq_true.1 M p U);obtain⟨k,rfl,hk⟩:=dW h0;show Gd (dD x++f k);refine Gd.app ?_ (O k hk);unfold dD;refine Gd.opt (fun _=>rfl) fun N=>?_;rcases J with rfl|rfl
  ·exact Gd.cons (ew I) (by unfold Gd;decide +kernel)
  ·unfold ec at I;rw[gD]at I;exact absurd I N
 ·rcases D with D|D
  ·obtain⟨a',rfl⟩:=bN D;exact absurd rfl h
  ·exact O res D
theorem nn:∀(d:Nat){n:Nd},(aa d).typ n=true->Gd (ag d n)
 |0,_,h=>by cases h
 |d+1,n,h=>by
  have D:=typ_kind h;have h:dH (aa d) n=true:=h;have J:∀n,(aa d).typ n=true->Gd (ag d n):=fun n h=>nn d h;unfold dH at h;unfold ag;rcases D with D|D|D
  ·rw[gB (by omega),gB (by omega),gB (by omega)];rw[gG D,gA]at h;refine Gd.cons (ew h.1) ?_;unfold nh;refine Gd.opt (fun _=>rfl) fun _=>Gd.cons (by decide +kernel) ((Gd.sep (by unfold Gd;decide +kernel) fun l hl=>?_).app (by unfold Gd;decide +kernel));obtain⟨x,M,rfl⟩:=List.mem_map.1 hl;exact J x (List.all_eq_true.1 h.2 x M)
  ·rw[gG D];rw[gB (by omega),gG D]at h;obtain⟨l,a,rfl,N⟩:=cg h;obtain⟨k,rfl,I⟩:=dW N;exact Gd.cons (by decide +kernel) (Gd.cons (by decide +kernel) (J k I))
  ·rw[gB (by omega),gG D];rw[gB (by omega),gB (by omega),gG D]at h;exact Gd.cons (by decide +kernel) (EY (.inr rfl) J h)
def T7(d:Nat):Prop:=∀n deep head,(aa d).expr n=true->Gd ((ac d).expr n deep head)
def T8(d:Nat):Prop:=∀n deep,(aa d).block n=true->Gd ((ac d).block n deep)
def T9(d:Nat):Prop:=∀n deep,(aa d).stmt n=true->Gd ((ac d).stmt n deep false)
def Ua(d:Nat):Prop:=∀n deep,(aa d).ifS n=true->Gd ((ac d).stmt n deep false)
theorem Gd.c1{a:It}(h:oO a=true):Gd [a]:=Gd.cons h rfl
theorem EZ:∀k,Gd (mP k)
 |0=>rfl
 |k+1=>Gd.cons (by decide) (EZ k)
section
variable {d:Nat} (hE:T7 d)
include hE
theorem nU{n:Nd}(yes:Bool)(deep:Nat)(head:Bool)(D:(aa d).expr n=true):Gd (aN (ac d) yes n deep head):=by unfold aN;exact Gd.opt (fun _=>Gd.cons (by decide +kernel) ((hE n deep false D).app (Gd.c1 (by decide +kernel)))) fun _=>hE n deep head D
theorem Ra{x:Nd}(deep:Nat)(D:dJ (aa d) x=true):Gd (dE (ac d) deep x):=by
 unfold dJ at D;rw[gI,gA,gD]at D;unfold dE;rcases D with D|⟨I,D⟩
 ·have:=Gi d x D;rw[gB (by omega)];exact hE x deep false D
 ·have:=typ_kind D;rw[gG (by omega),dM];exact nn d D
theorem wV(deep:Nat){l:List Nd}(I:l.all (dJ (aa d))=true)(a:UInt8)(J:oO (cK a)=true):Gd (cr ch (l.map (dE (ac d) deep))++[cK a]):=by refine Gd.app (Gd.sep (by unfold Gd;decide +kernel) fun y hy=>?_) (Gd.c1 J);obtain⟨x,D,rfl⟩:=List.mem_map.1 hy;exact Ra hE deep (List.all_eq_true.1 I x D)
theorem S7(hB:T8 d){n:Nd}(deep:Nat)(head:Bool)(D:aH (aa d) n=true):Gd (mQ (ac d) n deep head):=by
 have hF:(ac d).typ=ag d:=funext dM;(have ga:∀l:List Nd,l.all (aa d).expr=true->l.all (dJ (aa d))=true:=by intro l U;rw[qo]at U |-;intro x J;unfold dJ;rw[U x J];rfl);unfold aH at D;unfold mQ;split at D
 ·rename_i h;rw[gG h];obtain⟨x,l,a,rfl,J,I⟩:=aJ (by decide) D;exact Gd.c1 (Nt J)
 ·split at D
  ·rename_i I h;rw[gB I,gG h];obtain⟨x,l,a,rfl,J,_⟩:=aJ (by decide) D;unfold ed at J;rw[gD]at J;exact Gd.c1 (IH J)
  ·split at D
   ·rename_i I h1 h;rw[gB I,gB h1,gG h];obtain⟨x,l,a,rfl,J,_⟩:=aJ (by decide) D;exact Gd.c1 (ew J)
   ·split at D
    ·rename_i I h1 h2 h;rw[gB I,gB h1,gB h2,gG h];obtain⟨x,l,a,rfl,J,M⟩:=aJ (by decide) D;obtain⟨y,rfl,hy⟩:=dW M;unfold fw at J;rw[gI,gD,gD]at J;exact Gd.cons (by show oO (ow x)=true;rcases J with rfl|rfl<;>decide +kernel) (nU hE _ deep head hy)
    ·split at D
     ·rename_i I h1 h2 M h;rw[gB I,gB h1,gB h2,gB M,gG h];obtain⟨x,l,a,rfl,J,N⟩:=aJ (by decide) D;obtain⟨y,z,rfl,hy,hz⟩:=iO N;have ge:oO (ow x)=true:=pP J (fun y=>oO (ow y)=true) (by decide +kernel);exact(nU hE _ deep head hy).app (Gd.cons (by decide) (Gd.cons ge (Gd.cons (by decide) (nU hE _ deep head hz))))
     ·split at D
      ·rename_i I h1 h2 M N h;rw[gB I,gB h1,gB h2,gB M,gB N,gG h];obtain⟨k,t,l,a⟩:=n;rw[gA,gA,gD,gD]at D;obtain⟨ht,U,O⟩:=D;cases l with
       |nil=>exact absurd U (by show ¬ 0<0;omega)
       |cons f args=>have O:((f::args).all (aa d).expr)=true:=O;rw[jX,gA]at O;exact(nU hE _ deep head O.1).app (Gd.cons (by decide +kernel) (wV hE deep (ga args O.2) 41 (by decide +kernel)))
      ·split at D
       ·rename_i I h1 h2 M N h5 h;rw[gB I,gB h1,gB h2,gB M,gB N,gB h5,gG h];obtain⟨k,t,l,a⟩:=n;rw[gA,gA,gA,gD,gD]at D;obtain⟨ht,U,hf,O⟩:=D;cases l with
        |nil=>exact absurd U (by show ¬ 1<0;omega)
        |cons f args=>exact(nU hE _ deep head hf).app (Gd.cons (by decide +kernel) (wV hE deep O 93 (by decide +kernel)))
       ·split at D
        ·rename_i I h1 h2 M N h5 h6 h;rw[gB I,gB h1,gB h2,gB M,gB N,gB h5,gB h6,gG h];obtain⟨x,l,a,rfl,J,h7⟩:=aJ (by decide) D;obtain⟨f,rfl,hf⟩:=dW h7;exact(nU hE _ deep head hf).app (Gd.cons (by decide +kernel) (Gd.c1 (ew J)))
        ·split at D
         ·rename_i I h1 h2 M N h5 h6 h7 h;rw[gB I,gB h1,gB h2,gB M,gB N,gB h5,gB h6,gB h7,gG h];obtain⟨k,t,l,a⟩:=n;rw[gA,gA,gA,gA,gD,gD,gD]at D;obtain⟨ht,U,gg,hT,O⟩:=D;cases l with
          |nil=>exact absurd U (by show ¬ 0<0;omega)
          |cons T args=>have hT:(aa d).typ T=true:=hT;(have gb:Gd (oy (ac d) (.mk k t (T::args) a) deep):=by unfold oy;rw[hF];exact(nn d hT).app (Gd.cons (by decide +kernel) (wV hE deep (ga args O) 125 (by decide +kernel))));exact Gd.opt (fun _=>Gd.cons (by decide +kernel) (gb.app (Gd.c1 (by decide +kernel)))) fun _=>gb
         ·rename_i I h1 h2 M N h5 h6 h7 h8;rw[gB I,gB h1,gB h2,gB M,gB N,gB h5,gB h6,gB h7,gB h8];obtain⟨l,a,rfl,h9⟩:=cg D;obtain⟨sg,b,rfl,gd,hb⟩:=iO h9;rw[hF];exact Gd.cons (by decide +kernel) ((EY (.inl rfl) (fun n h=>nn d h) gd).app (Gd.cons (by decide) (hB b deep hb)))
end
section
variable {d:Nat} (hE:T7 d) (hB:T8 d)
include hE
theorem Nu{n:Nd}(deep:Nat)(J:iL (aa d) n=true):Gd (pl (ac d) n deep):=by
 unfold iL at J;rw[gA]at J;obtain⟨x,l,a,rfl,M,N⟩:=aJ (by decide) J.1;obtain⟨t,v,rfl,I,D⟩:=iO N;unfold ck at I D;rw[gI]at I D;refine Gd.cons (by decide +kernel) (Gd.cons (by decide) (Gd.cons (ew M) (Gd.app (Gd.opt (fun _=>rfl) fun h=>Gd.cons (by decide) ?_) (Gd.opt (fun _=>rfl) fun h=>Gd.cons (by decide) (Gd.cons (by decide +kernel) (Gd.cons (by decide) ?_))))))
 ·rw[dM];rcases I with I|I
  ·obtain⟨a',rfl⟩:=bN I;exact absurd rfl h
  ·exact nn d I
 ·rcases D with D|D
  ·obtain⟨a',rfl⟩:=bN D;exact absurd rfl h
  ·exact hE v deep false D
theorem wW{n:Nd}(deep:Nat)(head:Bool)(D:dr (aa d) n=true):Gd (cv (ac d) n deep head):=by
 unfold dr at D;rw[gI,gI,gI]at D;rcases D with D|D|D|D
 ·obtain⟨x,l,a,rfl,J,M⟩:=aJ (by decide) D;obtain⟨v,rfl,N⟩:=dW M;unfold cj at J;rw[gA]at J;exact Gd.cons (ew J.1) (Gd.cons (by decide) (Gd.cons (by decide +kernel) (Gd.cons (by decide) (hE v deep head N))))
 ·obtain⟨l,a,rfl,M⟩:=cg D;obtain⟨y,v,rfl,I,N⟩:=iO M;exact(hE y deep head I).app (Gd.cons (by decide) (Gd.cons (by decide +kernel) (Gd.cons (by decide) (hE v deep head N))))
 ·obtain⟨x,l,a,rfl,J,M⟩:=aJ (by decide) D;obtain⟨y,rfl,I⟩:=dW M;unfold ix at J;rw[gI,gD,gD]at J;exact(hE y deep head I).app (Gd.c1 (by show oO (ow x)=true;rcases J with rfl|rfl<;>decide +kernel))
 ·obtain⟨l,a,rfl,M⟩:=cg D;obtain⟨y,rfl,I⟩:=dW M;unfold iS at I;rw[gA]at I;exact hE y deep head I.2
theorem Rb{i e p b:Nd}{a:Int}(deep:Nat)(D:an i=true\/dr (aa d) i=true)(M:an e=true\/(aa d).expr e=true)(J:an p=true\/dr (aa d) p=true):Gd (sr (ac d) (.mk 31 ⟨#[]⟩ [i,e,p,b] a) deep):=by
 have hs:∀i:Nd,(an i=true\/dr (aa d) i=true)->i.kind≠0->Gd (eH (ac d) i deep true):=fun i D h=>by
  rcases D with D|D
  ·obtain⟨a',rfl⟩:=bN D;exact absurd rfl h
  ·rw[<-oz _ (fU D)];exact wW hE deep true D
 have I:e.kind≠0->Gd ((ac d).expr e deep true):=fun h=>by
  rcases M with D|D
  ·obtain⟨a',rfl⟩:=bN D;exact absurd rfl h
  ·exact hE e deep true D
 unfold sr;refine Gd.opt (fun _=>?_) fun _=>Gd.opt (fun h=>(I h).app (Gd.c1 (by decide))) fun _=>rfl;exact(Gd.opt (hs i D) fun _=>Gd.nil).app (Gd.cons (by decide +kernel) (Gd.cons (by decide) ((Gd.opt I fun _=>Gd.nil).app (Gd.cons (by decide +kernel) (Gd.cons (by decide) (Gd.opt (fun h=>(hs p J h).app (Gd.c1 (by decide))) fun _=>rfl))))))
omit hE in
theorem Nv{x:ByteArray}(J:bR x=true):Gd (fR x):=by
 unfold fR;refine Gd.opt (fun _=>rfl) fun M=>?_;unfold bR at J;rw[gP M,ve,gI,gA,gA,gA]at J;unfold cj at J;refine Gd.app ?_ (by unfold Gd;decide +kernel);rcases J with⟨N,D,I⟩|⟨N,D⟩
 ·rw[gA]at I;rw[gG N];exact Gd.cons (oI D) (Gd.cons (by decide +kernel) (Gd.cons (by decide) (Gd.c1 (oI I.1))))
 ·rw[gA]at D;rw[gB (by simpa using N)];exact Gd.c1 (oI D.1)
include hB
theorem R8(M:Ua d){n:Nd}(deep:Nat)(J:AQ (aa d) n=true):Gd (cv (ac d) n deep false):=by
 obtain⟨l,a,rfl,N⟩:=cg J;obtain⟨x,b,o,rfl,I,hb,D⟩:=CY N;unfold ck at D;rw[gI,gI]at D;refine Gd.cons (by decide +kernel) (Gd.cons (by decide) ((hE x deep true I).app (Gd.cons (by decide) ((hB b deep hb).app (Gd.opt (fun _=>rfl) fun h=>Gd.cons (by decide) (Gd.cons (by decide +kernel) (Gd.cons (by decide) ?_)))))));show Gd ((ac d).stmt o deep false);rcases D with(D|D)|D
 ·obtain⟨a',rfl⟩:=bN D;exact absurd rfl h
 ·rw[wT d o deep D];exact hB o deep D
 ·exact M o deep D
omit hE hB in
theorem Nw(I:T9 d){n:Nd}(deep:Nat)(D:n.kids.all (aa d).stmt=true):Gd (oT (ac d) n deep):=by unfold oT;refine Gd.cons (by decide +kernel) (Gd.cons (by decide) (Gd.app (Gd.flat fun x hx=>(EZ _).app ((I x (deep+1) (List.all_eq_true.1 D x hx)).app (Gd.c1 rfl))) ((EZ _).app (Gd.c1 (by decide +kernel)))))
theorem S8 (hI:Ua d)(hS:T9 d){n:Nd}(deep:Nat)(D:aE (aa d) n=true):Gd (cv (ac d) n deep false):=by
 unfold aE at D;split at D
 ·rename_i h;unfold cv;rw[gG h];exact Nu hE deep D
 ·split at D
  ·exact wW hE deep false (by unfold dr;rw[D];rfl)
  ·split at D
   ·exact wW hE deep false (by unfold dr;rw[D,kP,jG])
   ·split at D
    ·exact wW hE deep false (by unfold dr;rw[D,kP,jG,jG])
    ·split at D
     ·exact wW hE deep false (by unfold dr;rw[D,jG,jG,jG])
     ·split at D
      ·exact R8 hE hB hI deep D
      ·split at D
       ·obtain⟨l,a,rfl,M⟩:=cg D;obtain⟨i,e,p,b,rfl,I,O,U,hb⟩:=PE M;unfold ck at I O U;rw[gI,gI,gI]at I U;rw[gI]at O;refine Gd.cons (by decide +kernel) (Gd.cons (by decide) ((Rb hE deep ?_ O ?_).app (hB b deep hb)))
        ·rcases I with(I|I)|(I|I)
         ·exact .inl I
         ·exact .inr (by unfold dr;rw[I];rfl)
         ·exact .inr (by unfold dr;rw[I,kP,jG])
         ·exact .inr (by unfold dr;rw[I,kP,jG,jG])
        ·rcases U with(I|I)|(I|I)
         ·exact .inl I
         ·exact .inr (by unfold dr;rw[I,kP,jG])
         ·exact .inr (by unfold dr;rw[I,kP,jG,jG])
         ·exact .inr (by unfold dr;rw[I,jG,jG,jG])
       ·split at D
        ·obtain⟨x,l,a,rfl,J,M⟩:=aJ (by decide) D;obtain⟨e,b,rfl,O,hb⟩:=iO M;exact Gd.cons (by decide +kernel) (Gd.cons (by decide) ((Nv J).app (Gd.cons (by decide +kernel) (Gd.cons (by decide) ((hE e deep true O).app (Gd.cons (by decide) (hB b deep hb)))))))
        ·split at D
         ·obtain⟨l,a,rfl,M⟩:=cg D;obtain⟨x,rfl,J⟩:=dW M;unfold ck at J;rw[gI]at J;refine Gd.cons (by decide +kernel) (Gd.opt (fun _=>rfl) fun h=>Gd.cons (by decide) ?_);show Gd ((ac d).expr x deep false);rcases J with J|J
          ·obtain⟨a',rfl⟩:=bN J;exact absurd rfl h
          ·exact hE x deep false J
         ·split at D
          ·rename_i N;rcases N with N|N
           ·rw[N]at D;obtain⟨l,a,rfl,M⟩:=cg D;exact Gd.c1 (by decide +kernel)
           ·rw[N]at D;obtain⟨l,a,rfl,M⟩:=cg D;exact Gd.c1 (by decide +kernel)
          ·unfold bI at D;rw[gA,gA,gD]at D;have N:n.kind=36:=D.1;unfold cv;rw[gB (by omega),gB (by omega),gB (by omega),gB (by omega),gB (by omega),gB (by omega),gB (by omega),gB (by omega),gB (by omega),gB (by omega),gB (by omega)];exact Nw hS deep D.2.2
end
theorem BS:∀d,T7 d/\T8 d/\T9 d/\Ua d
 |0=>⟨fun _ _ _ h=>(by cases h),fun _ _ h=>(by cases h),fun _ _ h=>(by cases h),fun _ _ h=>(by cases h)⟩
 |d+1=>by obtain⟨hE,hB,I,J⟩:=BS d;refine⟨fun n deep head D=>S7 hE hB deep head D,fun n deep D=>?_,fun n deep D=>S8 hE hB J I deep D,fun n deep D=>R8 hE hB J deep D⟩;have D:bI (aa d) n=true:=D;unfold bI at D;rw[gA,gA]at D;exact Nw I deep D.2.2
section
variable {d:Nat}
theorem E0{n:Nd}(D:(aa d).typ n=true\/bo (aa d) n=true):Gd (fJ (ac d) n):=by
 unfold fJ;rw[show(ac d).typ=ag d from funext dM];rcases D with D|D
 ·have:=typ_kind D;rw[gB (by omega)];exact nn d D
 ·unfold bo at D;rw[gA,gA,gA,gD]at D;rw[gG D.1];unfold l7;refine Gd.cons (by decide +kernel) (Gd.cons (by decide +kernel) (Gd.cons (by decide) ((Gd.sep (by unfold Gd;decide +kernel) fun l hl=>?_).app (by unfold Gd;decide +kernel))));obtain⟨t,I,rfl⟩:=List.mem_map.1 hl;obtain⟨x,l,a,rfl,N,M⟩:=aJ (by decide) (List.all_eq_true.1 D.2.2.2 t I);obtain⟨k,rfl,J⟩:=dW M;refine Gd.app ?_ (nn d J);unfold ig;exact Gd.opt (fun _=>rfl) fun _=>by unfold Gd;decide +kernel
theorem E1{n:Nd}(M:bj (aa d) n=true):Gd (fq (ac d) n):=by obtain⟨l,a,rfl,N⟩:=sq M;unfold fq nh;refine Gd.opt (fun _=>rfl) fun _=>Gd.cons (by decide +kernel) ((Gd.sep (by unfold Gd;decide +kernel) fun y hy=>?_).app (by unfold Gd;decide +kernel));obtain⟨p,J,rfl⟩:=List.mem_map.1 hy;obtain⟨x,q,a',rfl,I,O⟩:=aJ (by decide) (List.all_eq_true.1 N p J);obtain⟨k,rfl,D⟩:=dW O;refine Gd.cons (ew I) (Gd.cons (by decide) (E0 ?_));unfold ck eS at D;rw[gI,gA]at D;exact D.imp (·.2) id
theorem S9{n:Nd}(D:bE (aa d) n=true):Gd (oU (ac d) n):=by unfold bE at D;rw[gA,gA]at D;refine Gd.cons (by decide +kernel) (Gd.cons (by decide) (Gd.cons (by decide +kernel) (Gd.cons (by decide) (Gd.app (Gd.flat fun x hx=>?_) (by unfold Gd;decide +kernel)))));obtain⟨y,q,a,rfl,I,M⟩:=aJ (by decide) (List.all_eq_true.1 D.2.2 x hx);obtain⟨k,rfl,J⟩:=dW M;unfold cM;rw[dM];exact Gd.cons (by decide) (Gd.cons (ew I) (Gd.cons (by decide) ((nn d J).app (Gd.c1 rfl))))
theorem Ta{n:Nd}(J:bM (aa d) n=true):Gd (eN (ac d) n):=by
 have hF:(ac d).typ=ag d:=funext dM;unfold bM at J;unfold eN;split at J
 ·rename_i h;rw[gG h];obtain⟨x,l,a,rfl,N,M⟩:=aJ (by decide) J;obtain⟨ps,sg,b,rfl,I,U,hb⟩:=CY M;rw[hF];exact Gd.cons (by decide +kernel) (Gd.cons (by decide) (Gd.cons (ew N) ((E1 I).app ((EY (.inl rfl) (fun n h=>nn d h) U).app (Gd.cons (by decide) ((BS d).2.1 b 0 hb))))))
 ·split at J
  ·rename_i M h;rw[gB M,gG h];obtain⟨x,l,a,rfl,N,O⟩:=aJ (by decide) J;obtain⟨ps,t,rfl,I,D⟩:=iO O;refine Gd.cons (by decide +kernel) (Gd.cons (by decide) (Gd.cons (ew N) ((E1 I).app (Gd.cons (by decide) ?_))));show Gd (if t.kind=13 then oU (ac d) t else fJ (ac d) t);unfold ck at D;rw[gI,gI]at D;rcases D with(D|D)|D
   ·have:=typ_kind D;rw[gB (by omega)];exact E0 (.inl D)
   ·(have hk:t.kind=13:=by unfold bE at D;rw[gA,gD]at D;exact D.1);rw[gG hk];exact S9 D
   ·(have hk:t.kind=14:=by unfold bo at D;rw[gA,gD]at D;exact D.1);rw[gB (by omega)];exact E0 (.inr D)
  ·split at J
   ·rename_i M O h;rw[gB M,gB O,gG h];obtain⟨x,l,a,rfl,N,h2⟩:=aJ (by decide) J;obtain⟨ps,t,rfl,I,D⟩:=iO h2;rw[hF];exact Gd.cons (by decide +kernel) (Gd.cons (by decide) (Gd.cons (ew N) ((E1 I).app (Gd.cons (by decide) (Gd.cons (by decide +kernel) (Gd.cons (by decide) (nn d D)))))))
   ·rename_i M O h2;rw[gB M,gB O,gB h2];exact Nu (BS d).1 0 J
theorem Rc{n:Nd}(D:fF (aa d) n=true):Gd (iB (ac d) n):=by unfold fF at D;rw[gA,gA]at D;exact Gd.cons (by decide +kernel) (Gd.cons (by decide) (Gd.cons (ew D.2.1) (Gd.cons rfl (Gd.flat fun x hx=>Gd.cons (by decide) ((Ta (List.all_eq_true.1 D.2.2 x hx)).app (Gd.c1 rfl))))))
end
theorem wX:∀{z:List It},Gd z->d8 (fl z)=true
 |[],_=>rfl
 |a::z,h=>by
  unfold Gd at h;rw[jX,gA]at h;have ih:=wX (z:=z) h.2;unfold d8 at ih |-;rw[dg,kU,ih,qJ];cases a with
  |tok k x=>have D:(d8 x&&_)=true:=h.1;rw[gA]at D;exact D.1
  |gap b=>have D:(decide (0<b.toNat)&&decide (b.toNat<128))=true:=h.1;show((decide (0<b.toNat)&&decide (b.toNat<128))&&true)=true;rw[D];rfl
  |nl=>rfl
theorem pS:∀{z:List It}(i:Nat),Gd z->(dQ i z).all fH=true
 |[],_,_=>rfl
 |a::z,i,h=>by
  unfold Gd at h;rw[jX,gA]at h;cases a with
  |tok k x=>have D:(d8 x&&fH ⟨k,dx x,0⟩)=true:=h.1;rw[gA]at D;show(fH ⟨k,dx x,(i:Int)⟩&&(dQ (i+x.length) z).all fH)=true;rw[pS _ h.2,show fH ⟨k,dx x,(i:Int)⟩=fH ⟨k,dx x,0⟩from rfl,D.2];rfl
  |gap b=>exact pS (z:=z) (i+1) h.2
  |nl=>show(fH ⟨6,⟨#[10]⟩,(i:Int)⟩&&(dQ (i+1) z).all fH)=true;rw[pS _ h.2,show fH ⟨6,⟨#[10]⟩,(i:Int)⟩=fH ⟨6,⟨#[10]⟩,0⟩from rfl,qJ];decide +kernel
theorem uq:∀(z y:List It)(i:Nat),dQ i (z++y)=dQ i z++dQ (i+(fl z).length) y
 |[],y,i=>rfl
 |a::z,y,i=>by
  rw[dg,gM,<-Nat.add_assoc];cases a with
  |tok k x=>show _::dQ (i+x.length) (z++y)=_;rw[uq z y];rfl
  |gap b=>show dQ (i+1) (z++y)=_;rw[uq z y];rfl
  |nl=>show _::dQ (i+1) (z++y)=_;rw[uq z y];rfl
theorem Nx(F:tZ)(n:Nd):∃z,iB F n=z++[.nl]:=by
 unfold iB;rcases List.eq_nil_or_concat n.kids with h|⟨l,x,h⟩
 ·rw[h];exact⟨[f8 ⟨#[112,97,99,107,97,103,101]⟩,aY,iq n.text],rfl⟩
 ·rw[h,List.concat_eq_append,kI];refine⟨f8 ⟨#[112,97,99,107,97,103,101]⟩::aY::iq n.text::.nl::((l.flatMap fun d=>.gap 10::(eN F d++[.nl]))++(.gap 10::eN F x)),?_⟩;simp
theorem IJ{x y:List UInt8}(h:rg (x++(y++[10]))=x.length):rg (x++y)=x.length:=by
 rw[<-gL]at h;(have M:x.length<=(x++y).length:=by simp);generalize x++y=l at h M |-;have key:∀k,k<=l.length->(l++[10]).take k=l.take k:=fun k hk=>List.take_append_of_le_length hk;unfold rg at h |-;rw[gM,show([10]:List UInt8).length=1 from rfl]at h;by_cases D:3<=l.length/\Lib.contains (32::bytes pY++[32]) (32::l.take 3++[32])=true
 ·rw[gG ⟨by omega,by rw[key 3 D.1];exact D.2⟩]at h;rw[gG D];exact h
 rw[gB D];split at h
 ·rename_i g;exact absurd ⟨by omega,by rw[<-key 3 (by omega)];exact g.2⟩ D
 by_cases I:2<=l.length/\Lib.contains (32::bytes rq++[32]) (32::l.take 2++[32])=true
 ·rw[gG ⟨by omega,by rw[key 2 I.1];exact I.2⟩]at h;rw[gG I];exact h
 rw[gB I];split at h
 ·rename_i g;exact absurd ⟨by omega,by rw[<-key 2 (by omega)];exact g.2⟩ I
 by_cases J:1<=l.length/\Lib.contains (32::bytes sS++[32]) (32::l.take 1++[32])=true
 ·rw[gG ⟨by omega,by rw[key 1 J.1];exact J.2⟩]at h;rw[gG J];exact h
 rw[gB J];split at h
 ·rename_i g;exact absurd ⟨by omega,by rw[<-key 1 (by omega)];exact g.2⟩ J
 ·exact h
theorem wY{l:List UInt8}{a b:UInt8}(h:hasPrefix (l++[10]) [a,b]=false):hasPrefix l [a,b]=false:=by
 cases D:hasPrefix l [a,b]with
 |false=>rfl
 |true=>
  rw[<-h];cases l with
  |nil=>cases D
  | cons x l=>cases l with
    |nil=>simp[hasPrefix]at D
    |cons y l=>exact D.symm.trans (by rfl)
theorem ii.nil{y x:List UInt8}{k:Int}(h:ii (y++[10]) k x):ii y k x:=by
 have hs:tR (y++[10])=true->tR y=true:=fun h=>by
  cases y with
  |nil=>rfl
  |cons b q=>exact h
 cases h with
 |word h hr=>exact .word h (hs hr)
 |num h hr=>exact .num h (hs hr)
 |text h=>exact .text h
 |sign h hl h1 h2=>rw[<-gL]at h1 h2;exact .sign h (IJ hl) (wY h1) (wY h2)
theorem bg.nil:∀{z:List It}{e:Bool},bg e z [10]->bg e z []
 |[],_,_=>trivial
 | .nl::_,_,h=>⟨h.1,bg.nil h.2⟩
 | .gap _::_,_,h=>⟨h.1,bg.nil h.2⟩
 | .tok k x::z,_,h=>⟨by rw[kE];exact ii.nil h.1,bg.nil h.2⟩
end
section
theorem Ny:fS false (dS []):=iH (by decide +kernel) (by decide +kernel) (by decide +kernel) (by decide +kernel) (by decide +kernel) (by decide +kernel)
theorem II(i:Nat){z:List It}(D:Gd z)(p:Int):(lk (dQ i z) p).all fH=true:=by
 unfold lk;split
 ·rw[kU,pS i D];show(true&&(fH ⟨6,⟨#[10]⟩,0⟩&&true))=true;decide +kernel
 ·exact pS i D
theorem Nz{c:Cx}{s:St}(h:At c s []):s.at_=c.toks.length:=by simpa using h.len
theorem E2{z:List It}{n:Nd}(hz:bg false z [])(hg:Gd z)(hL:∀c,Lv c false (aG z) n false)(hr:bA n=true)(M:(dx (fl z)).size<=65536):
  ∃L m J,bZ (dx (fl z))=.toks L/\fp fG.expr ⟨L,((dx (fl z)).size:Int)⟩ ⟨0,false,-1⟩=.ok m J/\J.at_=L.length/\bA m=true/\ci m n:=by
 obtain⟨t,hT⟩:∃t,dx (fl z)=t:=⟨_,rfl⟩;rw[hT]at M |-;(have hb:bytes t=fl z:=by rw[<-hT];exact bX _);have D:=Df hb M (by rw[hb];exact wX hg) hz;have I:=II 0 hg (t.size:Int);obtain⟨L,hM⟩:∃L,lk (dQ 0 z) (t.size:Int)=L:=⟨_,rfl⟩;have h:∃r,L.map I5=aG z++r/\fS false (dS r)/\(r=[]\/r=[BF]):=by
  rw[<-hM];unfold lk;split
  ·refine⟨[BF],?_,un false,.inr rfl⟩;rw[kS,nT];rfl
  ·refine⟨[],?_,Ny,.inl rfl⟩;rw[kE,nT]
 rw[hM]at D I;obtain⟨r,h1,h2,h3⟩:=h;have ga:=(uK D).2.1;(have hA:At ⟨L,(t.size:Int)⟩ ⟨0,false,-1⟩ (aG z++r):=by refine⟨gQ _,?_⟩;show(L.drop 0).map I5=_;rw[qu,h1]);obtain⟨m,J,e1,O,U,-,-⟩:=(hL ⟨L,(t.size:Int)⟩).exp 200000 ⟨0,false,-1⟩ r hA rfl (p6.no rfl) (by show 3*(L.length-0)+2<=200000;omega) h2;(have ht:bZ t=.toks L:=by unfold bZ;rw[D];simp only;rw[gG I]);have O:ci m n:=O;(have N:bA m=true:=by rw[O.rightX];exact hr);rcases h3 with rfl|rfl
 ·refine⟨L,m,J,ht,?_,Nz U,N,O⟩;unfold fp;show((cI 200000).expr _ _).bind _=_;rw[e1,bQ.bind_ok,gB];rw[U.is];decide
 ·refine⟨L,m,adv J,ht,?_,Nz U.adv,N,O⟩;unfold fp;show((cI 200000).expr _ _).bind _=_;rw[e1,bQ.bind_ok,gG];rw[U.is];decide
mutual
theorem BT:∀n:Nd,lE (ng n)=lE n
 | .mk k t l a=>by rw[eM,lE,lE,Gj l]
theorem Gj:∀l:List Nd,nf (nW l)=nf l
 |[]=>by rw[nW]
 |n::l=>by rw[nW,nf,nf,BT n,Gj l]
end
theorem ci.tot{n m:Nd}(h:ci n m):lE n=lE m:=by rw[<-BT n,show ng n=ng m from h,BT]
theorem NA{z:List It}{n:Nd}(hz:bg false z [])(hg:Gd z)(hL:∀c,Lv c false (aG z) n false)(hr:bA n=true)(I:(dx (fl z)).size<=65536)(hb:lE n<=1048576)(w:World)(hT:iY w):
  Calls prog 10 #[.string (dx (fl z))] w fun e w'=>∃m,ci m n/\fb w (.tree m) e w':=by obtain⟨L,m,M,J,h2,U,O,N⟩:=E2 hz hg hL hr I;(have ho:pc fG (dx (fl z))=.tree m:=by unfold pc;rw[J];show uh _ _=_;rw[h2];show(if M.at_<L.length then _ else if bA m=true then _ else _)=_;rw[gB (by rw[U];exact Nat.lt_irrefl _),gG O]);have H:=wn (dx (fl z)) w hT (by omega) ⟨(by rw[J];exact nofun),fun L' D=>by rw[J]at D;injection D with D;subst D;exact⟨m,M,h2,U,O,by rw[N.tot];omega⟩⟩;rw[ho]at H;exact H.mono fun e w' h=>⟨m,N,h⟩
end
section
open Go.Lib
theorem E3{n:Nd}(M:bc n=true)(I:(dx (fl (iB (ac 100) n))).size<=65536):
  ∃L m s1,bZ (dx (fl (iB (ac 100) n)))=.toks L/\oN fG ⟨L,((dx (fl (iB (ac 100) n))).size:Int)⟩ ⟨0,false,-1⟩=.ok m s1/\s1.at_=L.length/\bc m=true/\ci m n:=by(have N:fF (aa 100) n=true:=by unfold bc at M;rw[gA,gA]at M;exact M.2.2);have h:=P9 N;have U:=Rc N;obtain⟨z',e⟩:=Nx (ac 100) n;obtain⟨z,hZ⟩:∃z,iB (ac 100) n=z:=⟨_,rfl⟩;rw[hZ]at h U I e |-;obtain⟨t,hT⟩:∃t,dx (fl z)=t:=⟨_,rfl⟩;rw[hT]at I |-;(have hb:bytes t=fl z:=by rw[<-hT];exact bX _);have D:=Df hb I (by rw[hb];exact wX U) h;(have O:dU (dQ 0 z)=false:=by rw[e,uq];show dU (_++[⟨6,⟨#[10]⟩,_⟩])=false;rw[nj];exact Ao _);rw[De O]at D;have J:=pS 0 U;have ga:=(uK D).2.1;(have hA:At ⟨dQ 0 z,(t.size:Int)⟩ ⟨0,false,-1⟩ (aG (iB (ac 100) n)):=by refine⟨gQ _,?_⟩;show((dQ 0 z).drop 0).map I5=_;rw[qu,nT,hZ]);obtain⟨m,s',h1,h2,h3⟩:=Nf N (G:=200000) hA rfl rfl (by show 3*((dQ 0 z).length-0)+3<=200000;omega);(have ht:bZ t=.toks (dQ 0 z):=by unfold bZ;rw[D];simp only;rw[gG J]);exact⟨dQ 0 z,m,s',ht,h1,h3,by rw[h2.right];exact M,h2⟩
theorem NQ{n:Nd}(hr:bc n=true)(hb:lE n<=1048576)(I:(dx (fl (iB (ac 100) n))).size<=65536)(A:Option Addr)(c:Nat)(w:World)(hv:eK w A c (dx (fl (iB (ac 100) n))))(hT:iY w):
  Calls prog 7 #[.slice A (dx (fl (iB (ac 100) n))).size c] w fun e w'=>∃m,ci m n/\fb w (.tree m) e w':=by obtain⟨L,m,M,J,h2,U,O,N⟩:=E3 hr I;(have ho:pb fG (dx (fl (iB (ac 100) n)))=.tree m:=by unfold pb;rw[J];show ug _ _=_;rw[h2];show(if M.at_<L.length then _ else if bc m=true then _ else _)=_;rw[gB (by rw[U];exact Nat.lt_irrefl _),gG O]);have H:=wm A c _ w hv hT (by omega) ⟨(by rw[J];exact nofun),fun L' D=>by rw[J]at D;injection D with D;subst D;exact⟨m,M,h2,U,O,by rw[N.tot];omega⟩⟩;rw[ho]at H;exact H.mono fun e w' h=>⟨m,N,h⟩
theorem iX{s:ByteArray}(h:65536<s.size):bZ s=.err 65536 12:=by unfold bZ;rw[ll,gG h]
theorem NR(A:Option Addr)(c:Nat)(s:ByteArray)(w:World)(J:eK w A c s)(M:iY w)(D:s.size<=10000000000000000)(h:65536<s.size):
  Calls prog 7 #[.slice A s.size c] w (fb w (.bad 65536 12)):=by have H:=wm A c s w J M D ⟨(by rw[iX h];exact nofun),fun L I=>by rw[iX h]at I;cases I⟩;unfold pb at H;rw[iX h]at H;exact H
theorem NS(s:ByteArray)(w:World)(J:iY w)(D:s.size<=10000000000000000)(h:65536<s.size):
  Calls prog 10 #[s] w (fb w (.bad 65536 12)):=by have H:=wn s w J D ⟨(by rw[iX h];exact nofun),fun L I=>by rw[iX h]at I;cases I⟩;unfold pc at H;rw[iX h]at H;exact H
theorem NT{n:Nd}(J:bA n=true)(hb:lE n<=1048576)(D:(dx (fl ((ac 101).expr n 0 false))).size<=65536)(w:World)(M:iY w):
  Calls prog 10 #[.string (dx (fl ((ac 101).expr n 0 false)))] w fun e w'=>∃m,ci m n/\fb w (.tree m) e w':=by(have I:(aa 101).expr n=true:=by have h:=J;unfold bA at h;rw[gA,gA]at h;exact h.2.2);exact NA (bg.nil (((BQ 101).1 n 0 false I).1.ok false [10] (wR []))) ((BS 101).1 n 0 false I) (fun c=>(sE c 101).1 n 0 false false I) J D hb w M
end
section
open Go.RowKit Go.Lib Go.Proofs
attribute [local go_sem ↓] Go.wp_at_zero Go.wp_at_succ
theorem fg(k:Int)(f g:Nd->Bool)(so:ByteArray->Bool)(l:List Nd){t:ByteArray}{p:Int}:cE k [f,g] (aw so (.mk k t l p))=(nw f g l&&so t):=by
 rw[show aw so (.mk k t l p)=if so t=true then .mk k ⟨#[]⟩ l p else .mk 37 ⟨#[]⟩ [] 0 from rfl];by_cases hs:so t=true
 ·rw[gG hs,pC];simp[hs]
 ·rw[gB hs,pC];rw[qz]at hs;simp[hs,nw]
theorem Gl(f:Nd->Bool)(l:List Nd):nw f f l=(decide (l.length=2)&&l.all f):=by rcases l with _|⟨x,_|⟨y,_|⟨z,l⟩⟩⟩<;>simp[nw]
theorem N5(d:Nat)(C:l8 d)(nt:ByteArray)(nl:List Nd)(np:Int)(A:Option Addr)(cp:Nat)(w:World)(hv:aF w (.agg #[.int .i64 20,nt,.slice A nl.length cp,np]) (.mk 20 nt nl np))(hd:df (d+1) (.mk 20 nt nl np)):
  Calls prog 17 #[.agg #[.int .i64 20,nt,.slice A nl.length cp,np]] w fun e w'=>e=.returned (.bool (aH (aa d) (.mk 20 nt nl np)))/\Below w w w':=by
 have HV:=hid hv;have HD:=hid hd;have M:=hd.1.1;have HT:=hid C.typ;have HE:=hid C.expr;have I:=hid (oK d C.expr);have hB:=(aj w #[.int .i64 20,nt,.slice A nl.length cp,np]).1;have gd:=(aj w #[.int .i64 20,nt,.slice A nl.length cp,np]).2;clear hv hd C;generalize aa d=F at *;simp only[Nd.kids_mk]at M;have HR:=hid (show aH F (.mk 20 nt nl np)=(nw F.expr F.expr nl&&eC nt)by(have h:aH F (.mk 20 nt nl np)=cE 20 [F.expr,F.expr] (aw eC (.mk 20 nt nl np)):=by simp[aH]);rw[h,fg]);have O:=Gl F.expr nl;have I:=hid (I.out A cp nl _ (af.kidsV (af.below HV.out hB)) (fun n D=>HD.out.kid D) M);cases J:eC nt with
 |false=>have HX:Hid (aH F (.mk 20 nt nl np)=false):=hid (by rw[HR.out,J,jL]);(have D:∀x∈dv,¬ nt=x:=by intro x N e;rw[rK,List.any_eq_false]at J;exact J x N (by simpa using e));have e0:=bF (D ⟨#[43]⟩ (by simp[dv]));have e1:=bF (D ⟨#[45]⟩ (by simp[dv]));have e2:=bF (D ⟨#[42]⟩ (by simp[dv]));have e3:=bF (D ⟨#[47]⟩ (by simp[dv]));have e4:=bF (D ⟨#[37]⟩ (by simp[dv]));have e5:=bF (D ⟨#[61,61]⟩ (by simp[dv]));have e6:=bF (D ⟨#[33,61]⟩ (by simp[dv]));have e7:=bF (D ⟨#[60]⟩ (by simp[dv]));have e8:=bF (D ⟨#[60,61]⟩ (by simp[dv]));have e9:=bF (D ⟨#[62]⟩ (by simp[dv]));have gh:=bF (D ⟨#[62,61]⟩ (by simp[dv]));have gg:=bF (D ⟨#[38,38]⟩ (by simp[dv]));have ge:=bF (D ⟨#[124,124]⟩ (by simp[dv]));clear D J HR O I;(go_enter func17,ntmps17);go_wp2_with fail;go_ret;exact⟨by rw[HX.out];rfl,hB⟩
 |true=>
  have HX:=hid (show aH F (.mk 20 nt nl np)=(decide (nl.length=2)&&nl.all F.expr)by rw[HR.out,J,qJ,O]);(have D:∃x∈dv,nt=x:=by rw[rK,qK]at J;obtain⟨x,N,e⟩:=J;exact⟨x,N,by simpa using e⟩);clear J HR O;generalize nl.all F.expr=res at *;(have hc:∃q:Bool,((nl.length:Int)==2)=q/\decide (nl.length=2)=q:=by refine⟨_,rfl,?_⟩;rw[kT];simp;omega);obtain⟨q,gb,U⟩:=hc;rw[U]at HX;generalize nl.length=m at *;clear U;obtain⟨x,N,rfl⟩:=D;simp only[dv,vr,vm,or_false]at N;cases q
  ·rcases N with rfl|rfl|rfl|rfl|rfl|rfl|rfl|rfl|rfl|rfl|rfl|rfl|rfl;all_goals(go_enter func17,ntmps17);go_wp2_with fail;go_ret;exact⟨by rw[HX.out];rfl,hB⟩
  ·rcases N with rfl|rfl|rfl|rfl|rfl|rfl|rfl|rfl|rfl|rfl|rfl|rfl|rfl;all_goals(go_enter func17,ntmps17);go_wp2_with fail;refine(I.out).mono ?_;rintro e w1⟨rfl,ga⟩;go_wp2_with fail;go_ret;exact⟨by rw[HX.out,jP];rfl,au hB ga⟩
end
end Go.Proofs.YteialcjaiocjdaaGreatDoor
