/- Own texts for ToolWhat, cut and joined by a program. -/
import Derived.Test.YtkedhpmpejhekaaGreatDoorToolWhatH
import Derived.Lib.LaidTab
import Derived.Below
import Derived.ProofKit
import Derived.Test.YtkedhpmpejhekaaGreatDoorRows
import Derived.Carry
import Derived.ChangeSlices
import Derived.OpenShut
set_option linter.all false
namespace Go.Proofs.YtkedhpmpejhekaaGreatDoor
open IntKind (u64 u8)
noncomputable section
open Go.Proofs
noncomputable section
set_option maxRecDepth 100000
open Tryz
def BE:aq:=⟨6,[.str,.str],.bool,[],U2 gZ⟩
theorem wN:Ko BE:=
 aw (.c .o (.l ⟨[(false,6,an)],[]⟩ .o)) call6 func6 (aj Bb (aj pQ (aj IB al)))
end
namespace To
open Go.Lib
def nb(w:aF):Prop:= ∀b∈w,b≠32
theorem aiC:∀(w l cur:aF),nb w->wl (w++l) cur=wl l (cur++w)
 |[],l,cur,_=>by simp
 |b::w,l,cur,h=>by have hb:(b==32)=false:=beq_eq_false_iff_ne.2 (h b (bY ..));rw [dk,wl,hb,gR (by simp),aiC w l (cur++[b]) λc hc=>h c (.tail _ hc)];simp
theorem ajb{w:aF}(h:nb w)(a:w≠[]):wl w []=[w]:=by have:=aiC w [] [] h;rw [eF,pc] at this;rw [this,wl,gR (by simpa using a)]
theorem Ms(w:aF):∀(l cur:aF),wl (l++32::w) cur=wl l cur++wl w []
 |[],cur=>by
  simp only [pc,wl,q6,qq];split <;> simp
 |b::l,cur=>by
  simp only [dk,wl];split
  .split <;> simp [Ms w l]
  .exact Ms w l _
def nl(w:aF):Prop:= ∀b∈w,b≠10
def dgt(b:UInt8):Prop:=48<=b.toNat/\b.toNat<=57
theorem ab0{k:Nat}(h:k<10):dgt (UInt8.ofNat (48+k)):=by
 have:(UInt8.ofNat (48+k)).toNat=48+k:=by simp [UInt8.toNat_ofNat'];omega
 exact ⟨by omega,by omega⟩
theorem anR(u:Nat):∀b∈decDigits u,dgt b:=by
 induction u using Nat.strongRecOn with
 |_ u ih=>
  intro b hb;rw [decDigits] at hb;split at hb
  next h=>rw [List.mem_singleton.1 hb];exact ab0 h
  .rcases List.mem_append.1 hb with hb|hb
   .exact ih (u/10) (by omega) b hb
   .rw [List.mem_singleton.1 hb];exact ab0 (q9 _ (by omega))
theorem aai(u:Nat):decDigits u≠[]:=by rw [decDigits];split <;> simp
def af8(s:aF)(l:xg):aF:=s++l.flatMap λn=>32::itoa n
def pH:Nat->aF->v7
 |n,[]=>some n
 |n,b::l=>if 48<=b.toNat/\b.toNat<=57 then pH (10*n+(b.toNat-48)) l else none
def ala(s:aF):v7:=if s.length<1\/9<s.length then none else pH 0 s
theorem aaU:∀(s t:aF) (n:Nat),pH n (s++t)=(pH n s).bind λm=>pH m t
 |[],t,n=>rfl
 |b::s,t,n=>by
  rw [dk,pH,pH];split
  .exact aaU s t _
  .rfl
theorem akT(u:Nat):pH 0 (decDigits u)=some u:=by
 induction u using Nat.strongRecOn with
 |_ u ih=>
  have one:∀n k,k<10->pH n [UInt8.ofNat (48+k)]=some (10*n+k):=λn k a=>by
   have hd:=ab0 a;have:(UInt8.ofNat (48+k)).toNat=48+k:=by simp [UInt8.toNat_ofNat'];omega
   rw [pH,j6 (show 48<=_/\_ from hd),pH,this];congr 1;omega
  rw [decDigits];split
  next h=>rw [one 0 u h];simp
  .rw [aaU,ih (u/10) (by omega),cj,one _ _ (q9 _ (by omega))];congr 1;omega
theorem ajc:∀(k:Nat) (s:aF),pH 0 (List.replicate k 48++s)=pH 0 s
 |0,s=>rfl
 |k+1,s=>by rw [qg,dk,pH,j6 (by decide)];exact ajc k s
end To
variable {α ρ : Type}
namespace To
open Go.Lib
theorem Hf{σ:Type}(F:(σ->Option ρ)->σ->Option ρ)(n:Nat)(s:σ):az F (n+1) s=F (az F n) s:=rfl
theorem Fg{n:Nat}(h:n<18446744073709551616):n<=aC:=Nat.le_of_lt h
theorem fj(k:Option ρ):aI true k=k:=rfl
theorem V4(k:Option ρ)(g:Bool):Dy g true k=k:=by cases g <;> rfl
theorem ZX(d:α)(m:Option α)(k:α->Option ρ):bu true d m k=m.bind k:=rfl
theorem rb(x:α)(k:α->Option ρ):ai x k=k x:=rfl
theorem amA{i:Int}{n:Nat}(b:0<=i)(a:i<n):wC i n=true:=vL.2 ⟨b,a⟩
theorem aol{i j:Int}{n:Nat}(c:0<=i)(b:i<=j)(a:j<=n):dn i j n=true:=AY.2 ⟨⟨c,b⟩,a⟩
theorem ka{m l:aF}(h:m.length+l.length<=9223372036854775807):og m l=true:=qv h
theorem w1{i:Nat}(h:i<4611686018427387904):IntKind.i64.wrap ((i:Int)+1)=((i+1:Nat):Int):=by rw [Br (by omega)];rfl
theorem agN{α:Type}{l:List α}{i:Nat}(h:i<l.length):idx l (i:Int)=some l[i]:=by unfold idx;rw [j6 (by omega),qe,b5 h]
theorem ain{l:aF}{i:Nat}(h:i<l.length):iH l (i:Int)=(l[i].toNat:Int):=by simp [iH,List.getD,h]
theorem anF(b:UInt8)(k:Nat)(a:k<256):((b.toNat:Int)==(k:Int))=(b==UInt8.ofNat k):=by rw [qH,gy,gy,<-UInt8.toNat_inj];simp [UInt8.toNat_ofNat',Nat.mod_eq_of_lt a];omega
theorem ajV(a:aF)(b:a.length<4294967296):yZ a=some (wl a []):=by unfold yZ agw;rw [kR (by omega),fj];rfl
def kI(s:aF):Int×Bool:=match ala s with
 |some n=>(n,true)
 |none=>(0,false)
theorem anS(b:UInt8):(b.toNat:Int)<256:=by have:=UInt8.toNat_lt b;omega
theorem p10:∀t:Nat,t<10->10^t<=1000000000:=by decide
theorem aqh(t:Nat):10^(t+1)=10*10^t:=by rw [Nat.pow_succ];omega
theorem aje(s:aF)(b:s.length<=9):∀(N t n:Nat),t<=s.length->s.length+1<=N+t->n<10^t->
  az (Fa s) N ((n:Int),(t:Int))=some (match pH n (s.drop t) with
   |some m=>((m:Int),true)
   |none=>(0,false))
 |0,t,n,h1,h2,_=>by omega
 |N+1,t,n,h1,h2,h3=>by
  have hp:=p10 t (by omega);rw [Hf];show (bif (decide ((t:Int)<(s.length:Int))) then _ else _)=_;by_cases a:t<s.length
  .have hb:=anS s[t];have hd:s.drop t=s[t]::s.drop (t+1):=qj a;rw [kR (by omega),hW,amA (by omega) (by omega),fj];simp only [rb];rw [V4,ain a,hd,pH];by_cases hc:48<=s[t].toNat/\s[t].toNat<=57
   .rw [j6 hc,lk (by omega),lk (by omega),qp,gx,fj];have d:IntKind.i64.wrap ((IntKind.i64.wrap (10*(n:Int)))+(IntKind.i64.wrap (u8.wrap ((s[t].toNat:Int)-48))))=((10*n+(s[t].toNat-48):Nat):Int):=by
     have c:u8.wrap ((s[t].toNat:Int)-48)=(s[t].toNat:Int)-48:=by show ((s[t].toNat:Int)-48)%256=_;omega
     rw [c,Br (x:=(s[t].toNat:Int)-48) (by omega),Br (x:=10*(n:Int)) (by omega),Br (by omega)];omega
    rw [d,w1 (by omega),aje s b N (t+1) _ (by omega) (by omega) (by rw [aqh];omega)]
   .rw [gR hc];have:(decide ((s[t].toNat:Int)<48)||decide (57<(s[t].toNat:Int)))=true:=by rw [cp,n7,n7];omega
    rw [this,hW]
  .rw [lk (by omega),gx,l7 (by omega)];rfl
theorem ah1(s:aF)(a:s.length<4294967296):wu s=some (kI s):=by
 unfold wu kI ala;simp only [rb];by_cases h:s.length<1\/9<s.length
 .rw [j6 h];have:(decide ((s.length:Int)<1)||decide (9<(s.length:Int)))=true:=by rw [cp,n7,n7];omega
  rw [this];rfl
 .rw [gR h,lk (by omega),lk (by omega)];exact aje s (by omega) aC 0 0 (by omega) (Fg (by omega)) (by decide)
def jN(w:aF):Int:=if w=[112,108,97,105,110] then 0 else if w=[112,97,114,116,115] then 1 else if w=[116,114,101,101] then 2 else if w=[119,111,114,100,115] then 3 else if w=[108,111,115,115,121] then 4 else -1
theorem JB(l:List aF)(w x:aF)(N t:Nat)(h:l[t]? =some x)(b:t<4611686018427387904):az (gw l w) (N+1) (t:Int)=if w=x then some (t:Int) else az (gw l w) N ((t+1:Nat):Int):=by
 obtain ⟨d,c⟩:=List.getElem?_eq_some_iff.1 h;rw [Hf];show (bif (decide ((t:Int)<(l.length:Int))) then _ else _)=_;rw [kR (by omega),hW,agN d,c,cj,w1 b];by_cases a:w=x
 .rw [j6 a,a,q6,hW]
 .rw [gR a,beq_eq_false_iff_ne.2 a,gx]
theorem alO(w:aF):cS kY w=some (jN w):=by
 unfold cS jN;obtain ⟨N,a⟩:∃N,aC=N+1+1+1+1+1+1:=⟨18446744073709551610,rfl⟩;rw [a,show (0:Int)=((0:Nat):Int) from rfl,JB kY w [112,108,97,105,110] _ 0 rfl (by omega),JB kY w [112,97,114,116,115] _ 1 rfl (by omega),JB kY w [116,114,101,101] _ 2 rfl (by omega),
  JB kY w [119,111,114,100,115] _ 3 rfl (by omega),JB kY w [108,111,115,115,121] _ 4 rfl (by omega)]
 repeat' split
 all_goals rfl
def ja:List aF->Option xg
 |[]=>some []
 |s::l=>if (kI s).2 then (ja l).map ((kI s).1:: ·) else none
abbrev aka:=(Int×Int×Int×Int×Int×Int)×Bool
def CM:aka:=((0,0,0,0,0,0),false)
def Kh(w:aF):Option xg->aka
 |some [a,b]=>if 0<=jN w/\jN w≠4 then ((jN w,a,b,0,0,0),true) else CM
 |some [a,b,c,d,e]=>if jN w=4 then ((4,a,b,u64.wrap e,c,d),true) else CM
 |_=>CM
def DE:List aF->aka
 |[]=>CM
 |w::l=>Kh w (ja l)
theorem L5:∀(l:List aF) (x:xg),ja l=some x->x.length=l.length
 |[],x,h=>by cases h;rfl
 |s::l,x,h=>by
  unfold ja at h;split at h
  .cases hx:ja l with
   |none=>rw [hx] at h;cases h
   |some y=>rw [hx] at h;cases h;simp [L5 l y hx]
  .cases h
theorem alX(w:aF)(n:Int)(x:Option xg)(hx:∀y,x=some y->(y.length:Int)=n)(h:jN w<0\/n+1≠(if jN w=4 then 6 else 3)):Kh w x=CM:=by
 unfold Kh;split
 next a b=>have:=hx _ rfl;simp only [p5,qf] at this;rw [gR];rintro ⟨f,g⟩;rw [gR g] at h;omega
 .rename_i a b c d e;have:=hx _ rfl;simp only [p5,qf] at this;split
  next f=>rw [j6 f] at h;omega
  .rfl
 .rfl
theorem ab8(w:aF)(l:List aF)(h:jN w<0\/(l.length+1:Int)≠(if jN w=4 then 6 else 3)):DE (w::l)=CM:=
 alX w l.length (ja l) (λy a=>by rw [L5 l y a]) h
theorem ahX(x:α)(l:List α):bC (x::l) 1 (((x::l).length:Nat):Int)=l:=by unfold bC;simp
def put(c:Int×Int×Int×Int×Int)(i:Nat)(x:Int):Int×Int×Int×Int×Int:=match i with
 |0=>(x,c.2.1,c.2.2.1,c.2.2.2.1,c.2.2.2.2)
 |1=>(c.1,x,c.2.2.1,c.2.2.2.1,c.2.2.2.2)
 |2=>(c.1,c.2.1,x,c.2.2.2.1,c.2.2.2.2)
 |3=>(c.1,c.2.1,c.2.2.1,x,c.2.2.2.2)
 |_=>(c.1,c.2.1,c.2.2.1,c.2.2.2.1,x)
theorem apc(w:aF)(l:List aF)(k:Int)(b:∀s∈l,s.length<4294967296)(N i:Nat)(s:aF)(a:l[i]? =some s)(hi:i<5)(c:Int×Int×Int×Int×Int):
  az (fX (w::l) k) (N+1) (c.1,c.2.1,c.2.2.1,c.2.2.2.1,c.2.2.2.2,(i:Int))=
   if (kI s).2 then az (fX (w::l) k) N ((put c i (kI s).1).1,(put c i (kI s).1).2.1,(put c i (kI s).1).2.2.1,(put c i (kI s).1).2.2.2.1,(put c i (kI s).1).2.2.2.2,((i+1:Nat):Int)) else some CM:=by
 obtain ⟨e,d⟩:=List.getElem?_eq_some_iff.1 a;rw [Hf];unfold fX;dsimp only;rw [ahX,kR (by omega),hW,agN e,d,cj,ah1 s (b s (n3 a)),cj];cases hv:(kI s).2 with
 |false=>rfl
 |true=>
  rw [Bool.not_true,gx,j6 rfl,w1 (by omega)]
  match i,hi with
  |0,_=>rfl
  |1,_=>rfl
  |2,_=>rfl
  |3,_=>rfl
  |4,_=>rfl
  |i+5,hi=>omega
theorem apv(w:aF)(l:List aF)(k:Int)(N i:Nat)(hi:i=l.length)(c:Int×Int×Int×Int×Int):
  az (fX (w::l) k) (N+1) (c.1,c.2.1,c.2.2.1,c.2.2.2.1,c.2.2.2.2,(i:Int))=some ((k,c.1,c.2.1,u64.wrap c.2.2.2.2,c.2.2.1,c.2.2.2.1),true):=by
 rw [Hf];unfold fX;dsimp only;rw [ahX,lk (by omega),gx]
def E7:xg->Nat->Int×Int×Int×Int×Int->Int×Int×Int×Int×Int
 |[],_,c=>c
 |x::l,i,c=>E7 l (i+1) (put c i x)
theorem ahG(w:aF)(l:List aF)(k:Int)(a:∀s∈l,s.length<4294967296)(b:l.length<=5):∀(N i:Nat) (c:Int×Int×Int×Int×Int),i<=l.length->l.length+1<=N+i->
  az (fX (w::l) k) N (c.1,c.2.1,c.2.2.1,c.2.2.2.1,c.2.2.2.2,(i:Int))=some (match ja (l.drop i) with
   |some xs=>((k,(E7 xs i c).1,(E7 xs i c).2.1,u64.wrap (E7 xs i c).2.2.2.2,(E7 xs i c).2.2.1,(E7 xs i c).2.2.2.1),true)
   |none=>CM)
 |0,i,c,h1,h2=>by omega
 |N+1,i,c,h1,h2=>by
  by_cases hi:i<l.length
  .rw [apc w l k a N i l[i] (b5 hi) (by omega) c,qj hi,ja];cases hv:(kI l[i]).2 with
   |false=>rfl
   |true=>
    rw [j6 rfl,j6 rfl,ahG w l k a b N (i+1) (put c i (kI l[i]).1) (by omega) (by omega)];cases ja (l.drop (i+1)) <;> rfl
  .rw [apv w l k N i (by omega) c,l7 (by omega)];rfl
theorem afx(i:aF)(p:i.length<4294967296)(n:∀s∈wl i [],s.length<4294967296):dC i=some (DE (wl i [])):=by
 unfold dC;rw [ajV i p,cj];generalize wl i []=r at n;cases r with
 |nil=>rfl
 |cons w l=>
  have m:(((w::l).length:Nat):Int)=(l.length:Int)+1:=by simp
  rw [show ((((w::l).length:Nat):Int)==0)=false by rw [qC];omega,gx,show idx (w::l) 0=some w from rfl,cj,alO,cj];simp only [rb];have key:∀g:Int,g=(if jN w=4 then 6 else 3)->uO (w::l) (jN w) g=some (DE (w::l)):=by
   intro g j;unfold uO;simp only [rb];by_cases hb:jN w<0\/(l.length+1:Int)≠g
   .rw [ab8 w l (by rw [<-j];exact hb)];have:(decide (jN w<0)||(((w::l).length:Nat):Int) != g)=true:=by rw [cp,n7,bne_iff_ne,m];exact hb
    rw [this];rfl
   .have u:¬jN w<0:=λh=>hb (.inl h);have q:(l.length+1:Int)=g:=qP λh=>hb (.inr h);rw [lk u,show ((((w::l).length:Nat):Int) != g)=false by rw [bne_eq_false_iff_eq,m];exact q,Bool.or_false,gx,aol (by omega) (by rw [m];omega) (by omega),fj];have t:l.length<=5:=by split at j <;> omega
    have:=ahG w l (jN w) (λs o=>n s (.tail _ o)) t aC 0 (0,0,0,0,0) (by omega) (Fg (by omega));refine Eq.trans this ?_;rw [mj];show _=some (Kh w (ja l));cases hx:ja l with
    |none=>rfl
    |some xs=>
     have f:=L5 _ _ hx;by_cases k:jN w=4
     .rw [j6 k] at j
      match xs,f with
      |[a,b,c,d,e],_=>show _=some (if jN w=4 then _ else _);rw [j6 k,k];rfl
      |[],f|[_],f|[_,_],f|[_,_,_],f|[_,_,_,_],f|_::_::_::_::_::_::_,f=>simp at f;omega
     .rw [gR k] at j
      match xs,f with
      |[a,b],_=>show _=some (if 0<=jN w/\jN w≠4 then _ else _);rw [j6 ⟨by omega,k⟩];rfl
      |[],f|[_],f|_::_::_::_,f=>simp at f;omega
  by_cases k:jN w=4
  .rw [k,q6,hW,<-k];exact key 6 (by rw [j6 k])
  .rw [beq_eq_false_iff_ne.2 k,gx];exact key 3 (by rw [gR k])
end To
namespace To
open Go.Lib
theorem apG:∀u:Nat,u<10->dn (u:Int) (u64.wrap ((u:Int)+1)) 10=true/\cut [48,49,50,51,52,53,54,55,56,57] (u:Int) (u64.wrap ((u:Int)+1))=[UInt8.ofNat (48+u)]:=by decide
theorem abD:∀(N u:Nat),u<18446744073709551616->u<N->az (λk (s:Int)=>dR k s) N (u:Int)=some (decDigits u)
 |0,u,_,h=>by omega
 |N+1,u,hb,h=>by
  rw [Hf];have ih:∀v:Nat,v<18446744073709551616->v<N->az (λk (s:Int)=>dR k s) N (v:Int)=some (decDigits v):=abD N;generalize az (λk (s:Int)=>dR k s) N=f at ih ⊢;show dR _ _=_;unfold dR;rw [decDigits];by_cases a:u<10
  .obtain ⟨d,c⟩:=apG u a;rw [lk (by omega),gx,dif_pos a];show aI (dn (u:Int) _ 10) _=_;rw [d,fj,c]
  .rw [kR (by omega),hW,dif_neg a];have w1:u64.wrap (Int.tdiv (u:Int) 10)=((u/10:Nat):Int):=by rw [Int.tdiv_eq_ediv_of_nonneg (by omega)];show ((u:Int)/10)%18446744073709551616=_;omega
   have b:Int.tmod (u:Int) 10=((u%10:Nat):Int):=by rw [Int.tmod_eq_emod_of_nonneg (by omega)];omega
   have e:=nDigits_le20 (u/10) (by omega);rw [w1,b,ih (u/10) (by omega) (by omega),ih (u%10) (by omega) (by omega),cj,cj,decDigits_one (q9 _ (by omega)),
    ka (by rw [decDigits_length];simp;omega),fj]
theorem aoi(n:Int)(c: -9223372036854775808<=n)(b:n<=9223372036854775807):kO n=some (itoa n):=by
 unfold kO itoa lV;by_cases h:n<0
 .have e:u64.wrap (0-u64.wrap n)=((n.natAbs:Nat):Int):=by show (0-n%18446744073709551616)%18446744073709551616=_;omega
  have a:=nDigits_le20 n.natAbs (by omega);rw [kR h,hW,j6 h,e,abD aC n.natAbs (by omega) (by show _<18446744073709551616;omega),cj,ka (by rw [decDigits_length];simp;omega),fj];rfl
 .have e:u64.wrap n=((n.toNat:Nat):Int):=by show n%18446744073709551616=_;omega
  rw [lk h,gx,gR h,e,abD aC n.toNat (by omega) (by show _<18446744073709551616;omega),cj]
def i64(n:Int):Prop:= -9223372036854775808<=n/\n<=9223372036854775807
theorem ajt(n:Int)(h:i64 n):(itoa n).length<=21:=by
 obtain ⟨b,a⟩:=h;unfold itoa;split
 .have:=nDigits_le20 n.natAbs (by omega);simp only [p5,decDigits_length];omega
 .have:=nDigits_le20 n.toNat (by omega);rw [decDigits_length];omega
theorem akY(n:Int)(h:i64 n):Mi n=some (itoa n):=by unfold Mi;rw [show acb n=true from acW.2 h,fj]
end To
namespace To
open Go.Lib
abbrev VT:=Int×Int×Int×xg×(List xg×List xg)
theorem acK(l:xg)(c:∀n∈l,i64 n)(d:l.length<4294967296):∀(N t:Nat) (w:aF),t<=l.length->l.length+1<=N+t->w.length<=4294967296+t*22->
  az (Of l) N (w,(t:Int))=some (w++((l.drop t).flatMap λn=>32::itoa n)++[10])
 |0,t,w,h1,h2,_=>by omega
 |N+1,t,w,h1,h2,h3=>by
  rw [Hf];show (bif (decide ((t:Int)<(l.length:Int))) then _ else _)=_;by_cases a:t<l.length
  .have b:=c _ (List.getElem_mem a);have hi:=ajt _ b;rw [kR (by omega),hW,agN a,cj,akY _ b,cj,ka (by simp;omega),fj,ka (by simp;omega),fj,w1 (by omega),
    acK l c d N (t+1) _ (by omega) (by omega) (by simp;omega),qj a,List.flatMap_cons]
   simp
  .rw [lk (by omega),gx,ka (by simp;omega),fj,l7 (by omega)];simp
theorem aoD(s:aF)(l:xg)(c:s.length<4294967296)(a:∀n∈l,i64 n)(b:l.length<4294967296):kH s l=some (af8 s l++[10]):=by have:=acK l a b aC 0 s (by omega) (Fg (by omega)) (by omega);unfold kH af8;simpa using this
def J(L:List aF):aF:=L.flatMap λw=>w++[10]
def cF(v:VT):aF:=if v.1=1 then [104,111,108,100,115] else if v.1=2 then [118,105,111,108,97,116,101,100] else if v.1=3 then [110,111,116,104,105,110,103] else af8 [101,114,114,111,114] [v.2.1,v.2.2.1]
def few(l:List xg):Prop:=l.length<=20/\∀x∈l,x.length<=40/\∀n∈x,i64 n
structure OkV(v:VT):Prop where
 e:i64 v.2.1
 a:i64 v.2.2.1
 st:v.2.2.2.1.length<=40/\∀n∈v.2.2.2.1,i64 n
 s:few v.2.2.2.2.1
 c:few v.2.2.2.2.2
section
variable {v : VT} (hv : OkV v)
include hv
end
end To
namespace To
open Go.Lib
section
variable {v : VT} (hv : OkV v)
include hv
end
theorem S4:∀(l cur:aF),∀w∈wl l cur,w.length<=cur.length+l.length
 |[],cur,w,a=>by
  rw [wl] at a;split at a
  .cases a
  .rw [List.mem_singleton.1 a];simp
 |b::l,cur,w,a=>by
  rw [wl] at a;split at a
  .split at a
   .have:=S4 l [] w a;simp at this ⊢; omega
   .rcases List.mem_cons.1 a with rfl|a
    .simp
    .have:=S4 l [] w a;simp at this ⊢; omega
  .have:=S4 l _ w a;simp at this ⊢; omega
theorem xd(a:aF)(c:a.length<4294967296):dC a=some (DE (wl a [])):=afx a c λs b=>by have:=S4 a [] s b;simp at this;omega
end To
namespace To
theorem am2:mY=some true:=by kernel_rfl
end To
namespace To
open Go.Lib
theorem al5:∀l:aF,nl l->Lib.index l [10]= -1
 |[],_=>rfl
 |b::l,h=>by have hb:b≠10:=h b (bY ..);rw [Lib.index,gR (by simp [List.isPrefixOf];exact λe=>hb e.symm),al5 l λc hc=>h c (.tail _ hc)];rfl
theorem aiW(r:aF):∀l:aF,nl l->Lib.index (l++10::r) [10]=(l.length:Int)
 |[],_=>by simp [Lib.index,List.isPrefixOf]
 |b::l,h=>by have hb:b≠10:=h b (bY ..);rw [dk,Lib.index,gR (by simp [List.isPrefixOf];exact λe=>hb e.symm),aiW r l λc hc=>h c (.tail _ hc),gR (by rw [gy];omega)];simp
theorem apb{l:aF}(h:nl l):Lib.cut l [10]=(l,[],false):=by unfold Lib.cut;rw [al5 l h];rfl
theorem anV{l:aF}(h:nl l)(r:aF):Lib.cut (l++10::r) [10]=(l,r,true):=by unfold Lib.cut;rw [aiW r l h,j6 (by omega),qe];simp
theorem ZG:kH [119,104,97,116] []=some [119,104,97,116,10]:=by rw [aoD _ _ (by decide) (λn a=>by cases a) (by decide)];rfl
theorem aoj{l:aF}(h:nl l)(a:l.length<4294967281):lN l=some [119,104,97,116,10]:=by unfold lN VE;rw [kR a,fj,cj,apb h];simp only [rb];rw [xd l (by omega),cj,q6];rw [show (((([]:aF).length:Nat):Int)==0)=true from rfl,qw,Bool.or_true,hW,ZG];rfl
theorem amG{l r:aF}(h:nl l)(b:(l++10::r).length<4294967281)(c:(DE (wl l [])).2=false):lN (l++10::r)=some [119,104,97,116,10]:=by
 have a:l.length<4294967296:=by simp at b;omega
 unfold lN VE;rw [kR b,fj,cj,anV h r];simp only [rb];rw [xd l a,cj,c,Bool.not_false,Bool.true_or,hW,ZG];rfl
theorem aa1{s:aF}(a:(kI s).2=false):∀l:List aF,ja (l++[s])=none
 |[]=>by simp [ja,a]
 |x::l=>by rw [dk,ja,aa1 a l];split <;> rfl
theorem Z0(a s:aF)(hb:nb s)(b:s≠[])(c:(kI s).2=false)(d:jN s= -1):DE (wl (a++32::s) [])=CM:=by
 rw [Ms,ajb hb b];cases wl a [] with
 |nil=>exact ab8 s [] (.inl (by rw [d];decide))
 |cons w l=>show Kh w (ja (l++[s]))=CM;rw [aa1 c l];rfl
theorem XS(a rest:aF)(h:a.length<=200)(f:rest.length<=400):∀(N i:Nat),i<=a.length->a.length+1<=N+i->(∀b∈a.take i,b≠10)->
  az (nG a rest true) N (i:Int)=some true
 |0,i,h1,h2,_=>by omega
 |N+1,i,h1,h2,h3=>by
  rw [Hf];show (bif (decide ((i:Int)<(a.length:Int))) then _ else _)=_;by_cases hi:i<a.length
  .have hb:((a[i].toNat:Int)==10)=(a[i]==10):=anF a[i] 10 (by decide);rw [kR (by omega),hW,amA (by omega) (by omega),fj,ain hi,hb];cases hc:(a[i]==10) with
   |true=>rfl
   |false=>
    rw [gx,w1 (by omega)];refine XS a rest h f N (i+1) (by omega) (by omega) λb c=>?_;rw [List.take_succ_eq_append_getElem hi] at c;rcases List.mem_append.1 c with c|c
    .exact h3 b c
    .rw [List.mem_singleton.1 c];exact beq_eq_false_iff_ne.1 hc
  .have d:nl a:=by
    have e:i=a.length:=by omega
    rw [e,List.take_length] at h3;exact h3
   rw [lk (by omega),gx,xd a (by omega),cj,xd _ (by decide),cj,xd _ (by decide),cj,ka (by simp;omega),fj,
    show a++([32,120]:aF)=a++32::[120] from rfl,xd _ (by simp;omega),cj,Z0 a [120] (by intro b hb;rw [List.mem_singleton.1 hb];decide) (by decide) (by decide) (by decide)]
   have k:(DE (wl [80,108,97,105,110,32,49,32,49] [])).2=false:=by decide
   have j:(DE (wl [112,108,97,105,110,32,49,32,49] [])).2=true:=by decide
   simp only [rb];rw [k,j,show CM.2=false from rfl];simp only [Bool.not_true,Bool.or_false,Bool.not_false,qp,ZX];rw [aoj d (by omega),cj,show (([119,104,97,116,10]:aF) != [119,104,97,116,10])=false by decide,gx,qw];cases g:(DE (wl a [])).2 with
   |true=>rfl
   |false=>
    rw [Bool.not_false,ka (by simp;omega),V4,ka (by simp;omega),V4,ZX,show (a++([10]:aF))++rest=a++10::rest by simp,amG d (by simp;omega) g];rfl
theorem aij(a rest:aF):gZ a rest=some true:=by
 unfold gZ;rw [am2,cj];simp only [rb];by_cases d:(200:Int)<(a.length:Int)
 .rw [kR d,Bool.true_or,hW]
 .by_cases c:(400:Int)<(rest.length:Int)
  .rw [kR c,Bool.or_true,hW]
  .rw [lk d,lk c,Bool.or_false,gx];exact XS a rest (by omega) (by omega) aC 0 (by omega) (Fg (by omega)) (λb hb=>by simp at hb)
end To
namespace To
open Go.Lib
theorem ajl(u:Nat):nb (decDigits u):=λb hb e=>by subst e;have:=(anR u _ hb).1;simp at this
theorem JU(a b:Nat)(c:0<b):Int.tmod (a:Int) (b:Int)=((a%b:Nat):Int):=by rw [Int.tmod_eq_emod_of_nonneg (by omega)];omega
theorem apu(x:Nat)(h:x<9223372036854775808):kO (x:Int)=some (decDigits x):=by rw [aoi _ (by omega) (by omega)];unfold itoa;rw [gR (by omega),qe]
theorem alo(x:Nat)(h:x<1000000000):(decDigits x).length<=9:=by
 rw [decDigits_length];have key:∀(k u:Nat),u<10^(k+1)->nDigits u<=k+1:=by
  intro k
  induction k with
  |zero=>intro u a;rw [nDigits,dif_pos (by omega)];omega
  |succ k ih=>
   intro u a;rw [nDigits];split
   .omega
   .have:u/10<10^(k+1):=by rw [Nat.div_lt_iff_lt_mul (by omega)];rw [Nat.pow_succ] at a;exact a
    have:=ih _ this;omega
 exact key 8 x h
theorem ab7(k x:Nat)(h:k+(decDigits x).length<=9):kI (List.replicate k 48++decDigits x)=((x:Int),true):=by have hp:0<(decDigits x).length:=List.length_pos_iff.2 (aai x);unfold kI ala;rw [gR (by rw [cm,List.length_replicate];omega),ajc,akT]
def ws(s t:aF)(k:Nat):List aF:=(List.range k).map λj=>if j%2=0 then s else t
def xs(x y:Int)(k:Nat):xg:=(List.range k).map λj=>if j%2=0 then x else y
theorem ZH{α:Type}(f:α->aF)(g:α->Int)(h:∀j,kI (f j)=(g j,true)):∀l:List α,ja (l.map f)=some (l.map g)
 |[]=>rfl
 |a::l=>by rw [cq,ja,ZH f g h l,h a];rfl
theorem amV{s t:aF}{x y:Int}(b:kI s=(x,true))(a:kI t=(y,true))(k:Nat):ja (ws s t k)=some (xs x y k):=
 ZH _ _ (λj=>by by_cases h:j%2=0 <;> simp only [h,qq,qA,b,a]) _
theorem apZ(s t:aF)(k:Nat):ws s t (k+1)=ws s t k++[if k%2=0 then s else t]:=by unfold ws;rw [List.range_succ,qQ];rfl
theorem ali(x y:Int):∀k:Nat,k<8->Kh [116,114,101,101] (some (xs x y k))=if k=2 then ((2,x,y,0,0,0),true) else CM
 |0,_|1,_|2,_|3,_|4,_|5,_|6,_|7,_=>rfl
 |k+8,h=>by omega
theorem ajh(x y:Int):∀k:Nat,k<8->Kh [108,111,115,115,121] (some (xs x y k))=if k=5 then ((4,x,y,u64.wrap x,x,y),true) else CM
 |0,_|1,_|2,_|3,_|4,_|5,_|6,_|7,_=>rfl
 |k+8,h=>by omega
section
variable {a b c d : Nat} {lossy : Bool} (ha : a < 4294967296) (hb : b < 4294967296) (hc : c < 256) (hd : d < 256)
include ha hb hc hd
omit hc in
theorem N3(s w:aF)(g:Int)(u:kI s=(((a%1000000000:Nat):Int),true))(n:nb s)(l:s≠[])(m:s.length<=9)
  (r:(w,g)=if lossy then ([108,111,115,115,121],(5:Int)) else ([116,114,101,101],2)):∀(N i:Nat) (f:aF),i<=d%8->d%8+1<=N+i->f.length<=10+i*20->
  wl f []=w::ws s (decDigits (b%1000000000)) i->az (gI ((a:Int),(b:Int),(c:Int),(d:Int),lossy) true s g) N (f,(i:Int))=some true
 |0,i,f,h1,h2,_,_=>by omega
 |N+1,i,f,h1,h2,h3,h4=>by
  have B:Int.tmod (IntKind.i64.wrap (a:Int)) 1000000000=((a%1000000000:Nat):Int):=by rw [Br (by omega)];exact JU a 1000000000 (by omega)
  have v:Int.tmod (IntKind.i64.wrap (b:Int)) 1000000000=((b%1000000000:Nat):Int):=by rw [Br (by omega)];exact JU b 1000000000 (by omega)
  have A:Int.tmod (IntKind.i64.wrap (d:Int)) 8=((d%8:Nat):Int):=by rw [Br (by omega)];exact JU d 8 (by omega)
  have C:Int.tmod (i:Int) 2=((i%2:Nat):Int):=JU i 2 (by omega);have p:=alo (b%1000000000) (q9 _ (by omega));have k:=ab7 0 (b%1000000000) (by omega);rw [List.replicate_zero,pc] at k;rw [Hf];show (bif (decide ((i:Int)<Int.tmod (IntKind.i64.wrap (d:Int)) 8)) then _ else _)=_;rw [A];have h:∀q:aF,nb q->q≠[]->q.length<=9->q=(if i%2=0 then s else decDigits (b%1000000000))->i<d%8->
    az (gI ((a:Int),(b:Int),(c:Int),(d:Int),lossy) true s g) N (((f++[32])++q),((i+1:Nat):Int))=some true:=λq y t x z hi=>by
   refine N3 s w g u n l m r N (i+1) _ (by omega) (by omega) (by simp;omega) ?_;rw [aO,qb,Ms,h4,ajb y t,apZ,<-z];rfl
  by_cases hi:i<d%8
  .rw [kR (by omega),hW,C,w1 (by omega)];by_cases hp:i%2=0
   .rw [hp,show ((((0:Nat):Int))==0)=true from rfl,hW,ka (by simp;omega),fj,ka (by simp;omega),fj];exact h s n l m (by rw [j6 hp]) hi
   .rw [show (((i%2:Nat):Int)==0)=false by rw [qC];omega,gx,ka (by simp;omega),fj];rw [show Int.tmod (IntKind.i64.wrap ((a:Int),(b:Int),(c:Int),(d:Int),lossy).2.1) 1000000000=((b%1000000000:Nat):Int) from v,apu _ (by omega),cj,ka (by simp;omega),fj];exact h _ (ajl _) (aai _) p (by rw [gR hp]) hi
  .have o:i=d%8:=by omega
   rw [lk (by omega),gx,xd f (by omega),cj,ka (by simp;omega),fj,
    show f++([32,49,50,51,52,53,54,55,56,57,48]:aF)=f++32::[49,50,51,52,53,54,55,56,57,48] from rfl,xd _ (by simp;omega),cj,
    Z0 f [49,50,51,52,53,54,55,56,57,48] (by intro b hb e;subst e;revert hb;decide) (by decide) (by decide) (by decide),h4]
   simp only [rb];rw [show DE (w::ws s (decDigits (b%1000000000)) i)=Kh w (ja (ws s (decDigits (b%1000000000)) i)) from rfl,amV u k,show CM.2=false from rfl];simp only [B,v];cases lossy with
   |true=>
    obtain ⟨rfl,rfl⟩:w=[108,111,115,115,121]/\g=5:=by simpa using r
    rw [ajh _ _ i (by omega)];by_cases j:i=5
    .rw [j6 j,<-o,j];simp
    .rw [gR j,<-o,show (((i:Nat):Int)==5)=false by rw [qC];omega];rfl
   |false=>
    obtain ⟨rfl,rfl⟩:w=[116,114,101,101]/\g=2:=by simpa using r
    rw [ali _ _ i (by omega)];by_cases j:i=2
    .rw [j6 j,<-o,j];simp
    .rw [gR j,<-o,show (((i:Nat):Int)==2)=false by rw [qC];omega];rfl
theorem N1:∀(N i k:Nat),i<=9->10<=N+i->k+(decDigits (a%1000000000)).length<=9->
  az (gH ((a:Int),(b:Int),(c:Int),(d:Int),lossy) true) N (List.replicate k 48++decDigits (a%1000000000),(i:Int))=some true
 |0,i,k,h1,h2,_=>by omega
 |N+1,i,k,h1,h2,h3=>by
  have n:Int.tmod (IntKind.i64.wrap (c:Int)) 9=((c%9:Nat):Int):=by rw [Br (by omega)];exact JU c 9 (by omega)
  have ih:=N1 N (i+1) (k+1);rw [Hf];generalize az (gH ((a:Int),(b:Int),(c:Int),(d:Int),lossy) true) N=f at ih ⊢;unfold gH;simp only [rb];rw [n];by_cases hi:i<c%9/\k+(decDigits (a%1000000000)).length<9
  .rw [kR (by omega),kR (by simp;omega),Bool.and_true,hW,ka (by simp;omega),fj,w1 (by omega)];have:=ih (by omega) (by omega) (by omega);rw [qg,dk] at this;exact this
  .have:(decide ((i:Int)<((c%9:Nat):Int))&&decide (((List.replicate k 48++decDigits (a%1000000000)).length:Int)<9))=false:=by rw [Bool.and_eq_false_iff,decide_eq_false_iff_not,decide_eq_false_iff_not];simp only [cm,List.length_replicate];omega
   rw [this,gx];have j:nb (List.replicate k 48++decDigits (a%1000000000)):=λb hb=>by
    rcases List.mem_append.1 hb with hb|hb
    .rw [(List.mem_replicate.1 hb).2];decide
    .exact ajl _ b hb
   have g:∀(w:aF) (e:Int),((w,e)=if lossy then ([108,111,115,115,121],(5:Int)) else ([116,114,101,101],2))->w.length<=10->wl w []=[w]->gJ ((a:Int),(b:Int),(c:Int),(d:Int),lossy) true (List.replicate k 48++decDigits (a%1000000000)) w e=some true:=λw e m l h=>by unfold gJ;exact N3 ha hb hd _ w e (ab7 k _ h3) j (by simp [aai]) (by simp;omega) m aC 0 w (by omega) (Fg (by omega)) (by omega) (by rw [h];rfl)
   cases lossy with
   |true=>exact g [108,111,115,115,121] 5 rfl (by decide) (by decide)
   |false=>exact g [116,114,101,101] 2 rfl (by decide) (by decide)
end
end To
namespace To
open Go.Lib
abbrev IQ(p:UInt8×xg):aF:=af8 [p.1] p.2
section
variable {v : VT} (hv : OkV v)
include hv
end
end To
variable {P : Program} {w : World}
open Go.Lib Go.ChangeAt Go.ChangeShapes Go.WideShapes Go.RowKit
theorem Vz{P:Program}{w:World}:∀(l:List (String×DataW Unit)) (ps:List MemPlace),DataW.LaidVars P w l ps->∀(i:Nat) (n:String) (d:DataW Unit),l[i]? =some (n,d)->
  ∃g t cs a p,P.globalNamed n=some g/\(P.globals[g]?).map (·.type)=some t/\w.var? P n=some cs/\DataW.trod (λ_=>()) P w 0 (λ_=>true) false a t cs.toList=some (d,p)
 |[],_,_,i,n,d,h=>by simp at h
 |(n0,d0)::l,ps,h,i,n,d,hi=>by
  obtain ⟨g,t,cs,a,p,q,j,f,e,c,b,_⟩:=h;cases i with
  |zero=>
   simp only [c8,b0,n9] at hi;obtain ⟨rfl,rfl⟩:=hi;exact ⟨g,t,cs,a,p,j,f,e,c⟩
  |succ i=>exact Vz l q b i n d (by simpa using hi)
theorem Y4{H:Type}{enc:TypeId×Value->H}{f:Nat}{q:Nat->Bool}{d:Bool}{a:Nat}{t e:TypeId}{n:Nat}{cs:vy}{zs:List aF}{p:List MemPlace}
  (u:P.underlying t=some (.array n e)) (x:P.underlying e=some .string) (l:P.cellsOf e=1) (k:P.cellsOf t=n)
  (h:DataW.trod enc P w f q d a t cs=some (.agg (zs.map λz=> .lit (.string z)),p)):cs=zs.map S:=by
 cases a with
 |zero=>simp [DataW.trod] at h
 |succ a=>
  simp only [DataW.trod,u,l,k,q0] at h;split at h
  .rename_i B;obtain ⟨xs,o,hx⟩:=Option.map_eq_some_iff.1 h;have c:xs.map (·.1)=zs.map λz=>(DataW.lit (.string z):DataW H):=by have:=congrArg Prod.fst hx;simpa using this
   have s:xs.length=n:=by simpa using mapM_length o
   have r:zs.length=n:=by have:=congrArg List.length c;simp at this;omega
   apply qn;intro i;by_cases hi:i<n
   .obtain ⟨b,hb,v⟩:=mapM_at o i i (by simp [hi]);obtain ⟨z,hc,rfl,_⟩:=DataW.trod_string x v;have y:cs[i]? =some (.string z):=by have:=congrArg (·[0]?) hc;simpa [gj,et] using this
    have m:(xs.map (·.1))[i]? =some (DataW.lit (.string z.data.toList):DataW H):=by simp [hb]
    rw [c] at m;simp only [mi,Option.map_eq_some_iff,DataW.lit.injEq,Lit.string.injEq] at m;obtain ⟨A,j,g⟩:=m;subst g;simp [y,j,S]
   .rw [e9 (by omega),e9 (by simp;omega)]
  .cases h
theorem ahh{a:List (String×DataW Unit)}(b:(a.filter λx=>x.2.handleName?.isSome)=[])(h:laidMetH P a w):laidMet P a w:=by unfold laidMetH at h;rw [b] at h;exact h
theorem MH{a:List (String×DataW Unit)}{Γ:Ctx}(h:laidMet P a w)(i:Nat){n:String}{zs:List aF}{g:Nat}{t e:TypeId}{k:Nat}
  (hi:a[i]? =some (n,.agg (zs.map λz=> .lit (.string z)))) (m:P.globalNamed n=some g) (b:(P.globals[g]?).map (·.type)=some t)
  (q:P.underlying t=some (.array k e)) (s:P.underlying e=some .string) (l:P.cellsOf e=1) (j:P.cellsOf t=k) (u:¬ Γ.M g):(gl g (zs.map S)).P Γ.M w:=by
 obtain ⟨ps,r,_⟩:=h;obtain ⟨g',t',cs,o,p,f,d,hv,hd⟩:=Vz _ _ r i n _ hi;obtain rfl:=pa (m.symm.trans f);obtain rfl:=pa (b.symm.trans d);have v:=Y4 q s l j hd;refine ⟨u,?_⟩;unfold World.var? at hv;rw [m] at hv;simp only [cj] at hv;split at hv
 next c ty fr hb=>obtain rfl:=pa hv;exact ⟨ty,fr,by rw [hb,<-v]⟩
 .cases hv
theorem anA{a:List (String×DataW Unit)}{Γ:Ctx}(h:laidMet P a w)(i:Nat){n:String}{kd:IntKind}{zs:xg}{g:Nat}{t e:TypeId}{k:Nat}
  (hi:a[i]? =some (n,tabData kd zs)) (m:P.globalNamed n=some g) (b:(P.globals[g]?).map (·.type)=some t)
  (q:P.underlying t=some (.array k e)) (s:P.underlying e=some (.int kd)) (l:P.cellsOf e=1) (j:P.cellsOf t=k) (u:¬ Γ.M g):(gl g (zs.map (Value.int kd))).P Γ.M w:=by
 obtain ⟨ps,r,_⟩:=h;obtain ⟨g',t',cs,o,p,f,d,hv,hd⟩:=Vz _ _ r i n _ hi;obtain rfl:=pa (m.symm.trans f);obtain rfl:=pa (b.symm.trans d);have v:=cells_of_tab q s l j hd;refine ⟨u,?_⟩;unfold World.var? at hv;rw [m] at hv;simp only [cj] at hv;split at hv
 next c ty fr hb=>obtain rfl:=pa hv;exact ⟨ty,fr,by rw [hb,<-v]⟩
 .cases hv
def FU(Γ:Ctx):Prop:= ∀b,¬ Γ.M b
theorem aeU:FU []:=λb h=>by obtain ⟨it,h,_⟩:=h;cases h
theorem se{it:Item}{Γ:Ctx}(hp:it.own=[])(h:FU Γ):FU (it::Γ):=λb hb=>by
 rcases Ctx.By.1 hb with a|a
 .rw [hp] at a;cases a
 .exact h b a
theorem aiz(w:World):Sat [kept w (λ_=>False)] w:=Sat.nil.add rfl ⟨fH.refl w,bb _,λb _ _=>⟨aeU b,rfl⟩⟩
theorem ahR(w:World):FU [kept w (λ_=>False)]:=se rfl aeU
theorem ajX{Γ:Ctx}(h:FU Γ):Mv (λ_=>False) w Γ.M w:=⟨bb _,λb _ _=>⟨h b,rfl⟩⟩
theorem aik{w':World}{Γ:Ctx}{i:Nat}(h:Sat Γ w')(hi:Γ[i]? =some (kept w (λ_=>False))):Below w.heap.size w w':=by obtain ⟨a,d,c⟩:=h.kept hi;exact ⟨a.os,a.tape,a.output,d,λk b=>(c k b (λh=>h)).2⟩
theorem SM{Y:Type}(R:Nat->Y->Ex->Prop):∀(ys:List Y),(∀i y,ys[i]? =some y->∃e,R i y e)->∃l:List Ex,l.length=ys.length/\∀i y e,ys[i]? =some y->l[i]? =some e->R i y e
 |[],_=>⟨[],rfl,λi y e h=>by simp at h⟩
 |y::ys,h=>by
  obtain ⟨e,f⟩:=h 0 y rfl;obtain ⟨l,d,c⟩:=SM (λi=>R (i+1)) ys (λi y a=>h (i+1) y (by simpa using a));refine ⟨e::l,by simp [d],λi b e' a hx=>?_⟩;cases i with
  |zero=>
   simp only [c8,b0] at a hx;subst a;subst hx;exact f
  |succ i=>exact c i b e' (by simpa using a) (by simpa using hx)
theorem aix{H:Type}:∀(l:List Ex) (ds:List (DataW H)),l.length=ds.length->(∀(i:Nat) (e:Ex) (d:DataW H),l[i]? =some e->ds[i]? =some d->e.sz<=Rows.uptoBulk d)->szL l<=Rows.uptoBulkAll ds
 |[],[],_,_=>bb _
 |e::l,d::ds,hl,h=>by
  have c:=h 0 e d rfl rfl;have b:=aix l ds (by simpa using hl) (λi e d a hd=>h (i+1) e d (by simpa using a) (by simpa using hd));simp only [szL,Rows.uptoBulkAll];omega
 |[],_::_,h,_=>by simp at h
 |_::_,[],h,_=>by simp at h
theorem PK{H:Type}(d:DataW H):1<=Rows.uptoBulk d:=by
 cases d with
 |lit l=>cases l <;> simp [Rows.uptoBulk]
 |nil=>simp [Rows.uptoBulk]
 |ptr d=>simp [Rows.uptoBulk]
 |slice e b=>simp [Rows.uptoBulk]
 |agg c=>simp [Rows.uptoBulk]
 |iface t d=>simp [Rows.uptoBulk]
 |map a=>simp [Rows.uptoBulk]
 |held h=>simp [Rows.uptoBulk]
theorem CF{H:Type}{d:DataW H}:∀{l:List (DataW H)},d∈l->Rows.uptoBulk d<=Rows.uptoBulkAll l
 |x::r,h=>by
  simp only [Rows.uptoBulkAll];rcases List.mem_cons.1 h with rfl|h
  .omega
  .have:=CF h;omega
structure aiO(P:Program)(t:TypeId):Prop where
 fields:∃(fs:Array Field) (f0 f1 f2 f3:Field),P.underlying t=some (.struct fs)/\fs.size=4/\fs[0]? =some f0/\fs[1]? =some f1/\fs[2]? =some f2/\fs[3]? =some f3/\
  (f0.offset=0/\P.underlying f0.type=some (.int .i64)/\P.cellsOf f0.type=1)/\(f1.offset=1/\P.underlying f1.type=some (.int .i64)/\P.cellsOf f1.type=1)/\
  (f2.offset=2/\P.underlying f2.type=some (.int .i64)/\P.cellsOf f2.type=1)/\(f3.offset=3/\P.underlying f3.type=some (.slice t)/\P.cellsOf f3.type=1)
 cells:P.cellsOf t=4
theorem aob{a:Nat}{t:TypeId}{v:Value}{c:Array Field}(b:P.underlying t=some (.struct c))(h:Value.okWide P w .any a t v):
  ∃cs,v= .agg cs/\cs.size=P.cellsOf t/\Row.okWide P w .any a t cs:=by
 unfold Value.okWide at h;rw [b] at h;exact h
theorem ahA{a:Addr}{v:Value}(h:w.cell? a=some v):a.spot=none/\∃cs e fr,w.heap[a.block]? =some (.cells cs e fr)/\cs[a.off]? =some v:=by
 unfold World.cell? at h;split at h
 .rename_i cs e fr hb;split at h
  .cases h
  next b=>exact ⟨by simpa using b,cs,e,fr,hb,h⟩
 .cases h
theorem aht{H:Type}{enc:TypeId×Value->H}{W:World}{t:TypeId}(L:aiO P t):∀(o:Nat) (cs:vy) (x:DataW H×List MemPlace),
  DataW.trod enc P W 0 (λ_=>true) true o t cs=some x->∃e,uy (λ_=>False) W cs e/\e.sz<=Rows.uptoBulk x.1:=by
 intro o
 induction o using Nat.strongRecOn with
 |ind o ih=>
 intro cs x h;obtain ⟨⟨fs,f0,f1,f2,f3,hT,hsz,g0,g1,g2,g3,⟨o0,u0,c0⟩,⟨o1,u1,c1⟩,⟨o2,u2,c2⟩,⟨o3,u3,c3⟩⟩,hc⟩:=L;obtain ⟨xs,n,rfl,rfl,hl,C,V⟩:=DataW.trod_struct hT h;rw [hc] at hl;rw [hsz] at C;obtain ⟨a0,U,T,B,rfl⟩:∃a0 U T B,cs=[a0,U,T,B]:=by
  match cs,hl with
  |[a,b,c,d],_=>exact ⟨a,b,c,d,rfl⟩
 obtain ⟨x0,x1,x2,z,rfl⟩:∃a0 U T B,xs=[a0,U,T,B]:=by
  match xs,C with
  |[a,b,c,d],_=>exact ⟨a,b,c,d,rfl⟩
 have Y:=V 0 f0 g0;have t1:=V 1 f1 g1;have t2:=V 2 f2 g2;have X:=V 3 f3 g3;rw [o0,c0] at Y;rw [o1,c1] at t1;rw [o2,c2] at t2;rw [o3,c3] at X;simp only [mj,qO,List.take_zero,List.drop_succ_cons,c8,b8] at Y t1 t2 X;obtain ⟨w,e0,_,_⟩:=DataW.trod_int u0 Y;obtain ⟨v,e1,_,_⟩:=DataW.trod_int u1 t1;obtain ⟨u,e2,_,_⟩:=DataW.trod_int u2 t2;obtain rfl:a0= .int .i64 w:=by simpa using e0
 obtain rfl:U= .int .i64 v:=by simpa using e1
 obtain rfl:T= .int .i64 u:=by simpa using e2
 have hb:∀d,z.1=d->Rows.uptoBulk d+1<=Rows.uptoBulk (DataW.agg ([x0,x1,x2,z].map (·.1))):=λd hd=>by subst hd;have:=CF (d:=z.1) (l:=[x0,x1,x2,z].map (·.1)) (by simp);simp only [Rows.uptoBulk];omega
 rcases DataW.trod_slice u3 X with ⟨p,D⟩|⟨a,len,cap,f,rest,m,rfl,p,D,_,hlc,_,I,N,hsp,_⟩
 .obtain rfl:B= .slice none 0 0:=by simpa using p
  refine ⟨.mk w v u [],.nil w v u none,?_⟩;have:=hb _ rfl;have:=PK z.1;simp only [Ex.sz,szL];omega
 .obtain rfl:B= .slice (some a) len cap:=by simpa using p
  obtain ⟨hrl,F⟩:=hsp rfl;rw [hc] at N F
  -- all of it is there
  have cell:∀i,i<cap->∃us y,W.cells? 0 (a.add (i*4)) 4=some us/\us.length=4/\(∀j,j<4->W.cell? ((a.add (i*4)).add j)=us[j]?)/\DataW.trod enc P W 0 (λ_=>true) true m t us=some y/\(i<len->f[i]? =some y):=λi hi=>by
   by_cases K:i<len
   .obtain ⟨y,q⟩:∃y,f[i]? =some y:=⟨f[i]'(by omega),b5 _⟩;have:=N i K;rw [q,qE] at this;obtain ⟨us,A,R⟩:=this;obtain ⟨_,p,s⟩:=World.cells?_some A;exact ⟨us,y,A,p,s,R,λ_=>q⟩
   .obtain ⟨y,q⟩:∃y,rest[i-len]? =some y:=⟨rest[i-len]'(by omega),b5 _⟩;have:=F (i-len) (by omega);rw [q,qE] at this;obtain ⟨us,A,R⟩:=this;have e:len+(i-len)=i:=by omega
    rw [e] at A;obtain ⟨_,p,s⟩:=World.cells?_some A;exact ⟨us,y,A,p,s,R,λh=>absurd h K⟩
  by_cases O:cap=0
  .subst O;obtain rfl:len=0:=by omega
   refine ⟨.mk w v u [],.nil w v u (some a),?_⟩;have:=hb _ rfl;have:=PK z.1;simp only [Ex.sz,szL];omega
  .obtain ⟨us0,_,_,hl0,hc0,_⟩:=cell 0 (by omega);have S:=hc0 0 (by omega);rw [b5 (by omega)] at S;obtain ⟨hs,k,e',fr,Q,_⟩:=ahA S;have E:a.spot=none:=by simpa [Addr.add] using hs
   have g:W.heap[a.block]? =some (.cells k e' fr):=by simpa [Addr.add] using Q
   obtain ⟨b,off,sp⟩:=a;simp only at E g;subst E;have at_:∀i j,((⟨b,off,none⟩:Addr).add (i*4)).add j=⟨b,off+i*4+j,none⟩:=λi j=>by unfold Addr.add;split <;> split <;> simp_all
   have r:∀i,i<cap->∃us y,us.length=4/\(∀j,j<4->k[off+i*4+j]? =us[j]?)/\DataW.trod enc P W 0 (λ_=>true) true m t us=some y/\(i<len->f[i]? =some y):=λi hi=>by obtain ⟨us,y,_,p,s,h5,h6⟩:=cell i hi;refine ⟨us,y,p,λj J=>?_,h5,h6⟩;have:=s j J;rw [at_] at this;simpa [World.cell?,g] using this
   have hsize:off+cap*4<=k.size:=by obtain ⟨us,_,p,s,_⟩:=r (cap-1) (by omega);have:=s 3 (by omega);rw [b5 (by omega)] at this;have:=(Array.getElem?_eq_some_iff.1 this).1;omega
   have M:∀i y,f[i]? =some y->∃e,(uy (λ_=>False) W (((k.toList.drop off).drop (i*4)).take 4) e/\e.sz<=Rows.uptoBulk y.1):=λi y q=>by
    have hi:i<len:=by rw [<-I];exact (List.getElem?_eq_some_iff.1 q).1
    obtain ⟨us,y',p,s,h5,h6⟩:=r i (by omega);obtain rfl:y'=y:=by have:=h6 hi;rw [q] at this;exact (pa this).symm
    have Z:((k.toList.drop off).drop (i*4)).take 4=us:=by
     apply qn;intro j;by_cases J:j<4
     .rw [gj,j6 J,et,et,<-s j J];simp [qo]
     .rw [gj,gR J,e9 (by omega)]
    rw [Z];exact ih m (by omega) us y' h5
   obtain ⟨l,hll,hR⟩:=SM (λi y e=>uy (λ_=>False) W (((k.toList.drop off).drop (i*4)).take 4) e/\e.sz<=Rows.uptoBulk y.1) f M;have G:l.length=len:=by omega
   refine ⟨.mk w v u l,?_,?_⟩
   .rw [<-G];refine .some w v u l b off cap k e' fr (λh=>h) g (by omega) (by omega) ?_ (λi hi=>?_)
    .simp only [bj,ch,ca];omega
    .obtain ⟨y,q⟩:∃y,f[i]? =some y:=⟨f[i]'(by omega),b5 _⟩;have:=(hR i y l[i] q (b5 _)).1;rw [p6,l9];have e4:min 4 (l.length*4-i*4)=4:=by omega
     rw [e4];exact this
   .have A:=aix l (f.map (·.1)) (by simp [hll]) (λi e d he hd=>by rw [mi,Option.map_eq_some_iff] at hd;obtain ⟨y,q,rfl⟩:=hd;exact (hR i y e q he).2)
    have R:z.1= .slice (f.map (·.1)) (rest.map (·.1)):=by rw [D]
    have p:=hb _ R;simp only [Ex.sz];have s:Rows.uptoBulk (DataW.slice (f.map (·.1)) (rest.map (·.1)))=Rows.uptoBulkAll (f.map (·.1))+Rows.uptoBulkAll (rest.map (·.1))+1:=by simp only [Rows.uptoBulk]
    omega
variable {Q : Nat -> Prop} {W : World}
open Go.ChangeMaps (open_string)
def ra:Ty->s3
 | .p a b=>ra a++ra b
 | .l _|.ex=>[none]
 |_=>[]
def aoe:Ty->Pt
 | .i k=> .int k
 | .bo=> .bool
 | .s=> .str
 | .l t=> .sli t
 |t=> .dat t (ra t)
def E6(Q:Nat->Prop):(t:Ty)->t.T->Prop
 | .i k,x=>(Lit.int k x).wf=true
 | .s,x=>x.length<=9223372036854775807
 | .p a b,x=>E6 Q a x.1/\E6 Q b x.2
 | .l t,x=>(List.length (α:=t.T) x<=9223372036854775807/\Q (List.length (α:=t.T) x))/\∀y:t.T,List.Mem y x->E6 Q t y
 | .ex,x=>Q x.sz
 |_,_=>True
def JS(P:Program)(t:TypeId):Bool:=(match P.underlying t with
 |some (.int .i64)=>true
 |_=>false)&&P.cellsOf t==1
def exB(P:Program)(t:TypeId):Bool:=(match P.underlying t with
 |some (.struct fs)=>(match fs.toList with
  |[f0,f1,f2,f3]=>f0.offset==0&&JS P f0.type&&(f1.offset==1&&JS P f1.type)&&(f2.offset==2&&JS P f2.type)&&(f3.offset==3&&P.cellsOf f3.type==1&&(match P.underlying f3.type with
   |some (.slice e)=>e==t
   |_=>false))
  |_=>false)
 |_=>false)&&P.cellsOf t==4
def y6(P:Program)(fit:TypeId->Ty->Bool)(tot:Nat):List Field->Nat->Ty->Bool
 |[],_,_=>false
 |[f],off,t=>f.offset==off&&off+P.cellsOf f.type==tot&&P.cellsOf f.type==t.rep.n&&fit f.type t
 |f::g::fs,off,t=>match t with
  | .p a b=>f.offset==off&&P.cellsOf f.type==a.rep.n&&fit f.type a&&y6 P fit tot (g::fs) (off+P.cellsOf f.type) b
  |_=>false
def fits(P:Program):Nat->TypeId->Ty->Bool
 |0,_,_=>false
 |n+1,i,t=>match P.underlying i with
  |some (.int k)=>(match t with
   | .i k'=>decide (k=k')
   |_=>false)
  |some .bool=>(match t with
   | .bo=>true
   |_=>false)
  |some .string=>(match t with
   | .s=>true
   |_=>false)
  |some (.slice e)=>(match t with
   | .l u=>P.cellsOf e==u.rep.n&&Nat.blt 0 u.rep.n&&fits P n e u
   |_=>false)
  |some (.struct fs)=>(match t with
   | .ex=>exB P i
   | .p a b=>y6 P (fits P n) (P.cellsOf i) fs.toList 0 (.p a b)
   |_=>false)
  |_=>false
def Xi:Ty->Bool
 | .n=>false
 | .p a b=>Xi a&&Xi b
 |_=>true
theorem LA{P:Program}{c:TypeId->Ty->Bool}(h:∀i t,c i t=true->Xi t=true){d:Nat}:∀(j:List Field) (off:Nat) (t:Ty),y6 P c d j off t=true->Xi t=true
 |[],_,_,e=>by cases e
 |[f],off,t,e=>by
  simp only [y6,ae] at e;exact h _ _ e.2
 |f::g::j,off,t,e=>by
  unfold y6 at e;split at e
  next a b=>simp only [ae] at e;simp only [Xi,ae];exact ⟨h _ _ e.1.2,LA h (g::j) _ b e.2⟩
  .cases e
theorem ZZ{P:Program}:∀(n:Nat) (i:TypeId) (t:Ty),fits P n i t=true->Xi t=true
 |0,_,_,e=>by cases e
 |n+1,i,t,e=>by
  unfold fits at e;split at e <;> (try cases e)
  .split at e
   .rfl
   .cases e
  .split at e
   .rfl
   .cases e
  .split at e
   .rfl
   .cases e
  .split at e
   .rfl
   .cases e
  .split at e
   .rfl
   .exact LA (λi t=>ZZ n i t) _ _ _ e
   .cases e
theorem sy{t:TypeId}(h:JS P t=true):P.underlying t=some (.int .i64)/\P.cellsOf t=1:=by
 unfold JS at h;simp only [ae,gy] at h;refine ⟨?_,h.2⟩;revert h;split
 next h=>intro _;exact h
 .intro h;cases h.1
theorem ao3{t:TypeId}(h:exB P t=true):aiO P t:=by
 unfold exB at h;simp only [ae,gy] at h;obtain ⟨a,r⟩:=h;split at a
 .rename_i f b;split at a
  .rename_i l k j c d;simp only [ae,gy] at a;obtain ⟨⟨⟨⟨a0,o⟩,x,n⟩,w,m⟩,⟨v,s⟩,u⟩:=a;have g:∀i:Nat,f[i]? =[l,k,j,c][i]? :=λi=>by rw [<-d,qi]
   have p:P.underlying c.type=some (.slice t):=by
    revert u;split
    next e q=>intro hb;rw [q,(by simpa using hb:e=t)]
    .intro hb;cases hb
   refine ⟨⟨f,l,k,j,c,b,?_,g 0,g 1,g 2,g 3,⟨a0,(sy o).1,(sy o).2⟩,⟨x,(sy n).1,(sy n).2⟩,⟨w,(sy m).1,(sy m).2⟩,⟨v,p,s⟩⟩,r⟩;rw [<-ca,d];rfl
  .cases a
 .cases a
theorem ak9{a:Addr}{v:Value}(h:w.cell? a=some v):a.spot=none/\∃cs e fr,w.heap[a.block]? =some (.cells cs e fr)/\cs[a.off]? =some v:=by
 unfold World.cell? at h;split at h
 .rename_i cs e fr hb;split at h
  .cases h
  next b=>exact ⟨by simpa using b,cs,e,fr,hb,h⟩
 .cases h
theorem Ox{Y α:Type}(R:Nat->Y->α->Prop):∀(ys:List Y),(∀i y,ys[i]? =some y->∃e,R i y e)->∃l:List α,l.length=ys.length/\∀i y e,ys[i]? =some y->l[i]? =some e->R i y e
 |[],_=>⟨[],rfl,λi y e h=>by simp at h⟩
 |y::ys,h=>by
  obtain ⟨e,f⟩:=h 0 y rfl;obtain ⟨l,d,c⟩:=Ox (λi=>R (i+1)) ys (λi y a=>h (i+1) y (by simpa using a));refine ⟨e::l,by simp [d],λi b e' a hx=>?_⟩;cases i with
  |zero=>
   simp only [c8,b0] at a hx;subst a;subst hx;exact f
  |succ i=>exact c i b e' (by simpa using a) (by simpa using hx)
theorem O4{H:Type}:∀(l:List (DataW H)),l.length<=Rows.uptoBulkAll l
 |[]=>p8 _
 |d::l=>by have:=O4 l;have:=PK d;simp only [p5,Rows.uptoBulkAll];omega
theorem ahV{H:Type}{enc:TypeId×Value->H}{t e:TypeId}{A:dD α}{D:α->Prop}(ht:P.underlying t=some (.slice e))(hA:P.cellsOf e=A.n)(hn:0<A.n)
  (p:Nat) (cs:vy) (x:DataW H×List MemPlace) (N:∀n,n<=Rows.uptoBulk x.1->Q n)
  (he:∀(p:Nat) (us:vy) (y:DataW H×List MemPlace),(∀n,n<=Rows.uptoBulk y.1->Q n)->DataW.trod enc P W 0 (λ_=>true) true p e us=some y->∃z,A.rd (λ_=>False) W us z/\D z)
  (h:DataW.trod enc P W 0 (λ_=>true) true p t cs=some x):
  ∃(u:fw) (zs:List α),cs=[sl u]/\bO A (λ_=>False) W (sl u) zs/\(zs.length<=9223372036854775807/\Q zs.length)/\∀z∈zs,D z:=by
 rcases DataW.trod_slice ht h with ⟨o,_⟩|⟨a,len,cap,c,rest,m,rfl,o,hx,_,hlc,B,E,J,T,_⟩
 .exact ⟨(none,0,0),[],o,bO.nil,⟨by simp,N _ (p8 _)⟩,by simp⟩
 .obtain ⟨hrl,w⟩:=T rfl;rw [hA] at J w;have B:cap<=9223372036854775807:=B;have hb:Rows.uptoBulk x.1=Rows.uptoBulkAll (c.map (·.1))+Rows.uptoBulkAll (rest.map (·.1))+1:=by rw [hx];simp only [Rows.uptoBulk]
  have hlb:len<=Rows.uptoBulk x.1:=by have:=O4 (c.map (·.1));simp only [List.length_map] at this;omega
  have V:∀y∈c,∀n,n<=Rows.uptoBulk y.1->Q n:=λy k n hn=>N n (by have:=CF (d:=y.1) (l:=c.map (·.1)) (List.mem_map.2 ⟨y,k,rfl⟩);omega)
  have cell:∀i,i<cap->∃us y,us.length=A.n/\(∀j,j<A.n->W.cell? ((a.add (i*A.n)).add j)=us[j]?)/\DataW.trod enc P W 0 (λ_=>true) true m e us=some y/\(i<len->c[i]? =some y):=λi hi=>by
   by_cases G:i<len
   .obtain ⟨y,k⟩:∃y,c[i]? =some y:=⟨c[i]'(by omega),b5 _⟩;have:=J i G;rw [k,qE] at this;obtain ⟨us,O,Z⟩:=this;obtain ⟨_,o,r⟩:=World.cells?_some O;exact ⟨us,y,o,r,Z,λ_=>k⟩
   .obtain ⟨y,k⟩:∃y,rest[i-len]? =some y:=⟨rest[i-len]'(by omega),b5 _⟩;have:=w (i-len) (by omega);rw [k,qE,show len+(i-len)=i by omega] at this;obtain ⟨us,O,Z⟩:=this;obtain ⟨_,o,r⟩:=World.cells?_some O;exact ⟨us,y,o,r,Z,λh=>absurd h G⟩
  by_cases K:cap=0
  .subst K;obtain rfl:len=0:=by omega
   exact ⟨(some a,0,0),[],o,bO.emp,⟨by simp,N _ (p8 _)⟩,by simp⟩
  .obtain ⟨us0,_,hl0,U,_⟩:=cell 0 (by omega);have M:=U 0 hn;rw [b5 (by omega)] at M;obtain ⟨hs,f,e',fr,L,_⟩:=ak9 M;have v:a.spot=none:=by simpa [Addr.add] using hs
   have g:W.heap[a.block]? =some (.cells f e' fr):=by simpa [Addr.add] using L
   obtain ⟨b,off,sp⟩:=a;simp only at v g;subst v;have at_:∀i j,((⟨b,off,none⟩:Addr).add (i*A.n)).add j=⟨b,off+i*A.n+j,none⟩:=λi j=>by unfold Addr.add;split <;> split <;> simp_all
   have q:∀i,i<cap->∃us y,us.length=A.n/\(∀j,j<A.n->f[off+i*A.n+j]? =us[j]?)/\DataW.trod enc P W 0 (λ_=>true) true m e us=some y/\(i<len->c[i]? =some y):=λi hi=>by obtain ⟨us,y,o,r,Y,X⟩:=cell i hi;refine ⟨us,y,o,λj F=>?_,Y,X⟩;have:=r j F;rw [at_] at this;simpa [World.cell?,g] using this
   have s:off+cap*A.n<=f.size:=by
    obtain ⟨us,_,o,r,_⟩:=q (cap-1) (by omega);have:=r (A.n-1) (by omega);rw [b5 (by omega)] at this;have:=(Array.getElem?_eq_some_iff.1 this).1;have e1:cap*A.n=(cap-1)*A.n+A.n:=by
     have:cap=(cap-1)+1:=by omega
     conv=>lhs;rw [this]
     rw [oi,Nat.one_mul]
    omega
   have I:∀i y,c[i]? =some y->∃z,(A.rd (λ_=>False) W (((f.toList.drop off).drop (i*A.n)).take A.n) z/\D z):=λi y k=>by
    have hi:i<len:=by rw [<-E];exact (List.getElem?_eq_some_iff.1 k).1
    obtain ⟨us,R,o,r,Y,X⟩:=q i (by omega);obtain rfl:R=y:=by have:=X hi;rw [k] at this;exact (pa this).symm
    have S:((f.toList.drop off).drop (i*A.n)).take A.n=us:=by
     apply qn;intro j;by_cases F:j<A.n
     .rw [gj,j6 F,et,et,<-r j F];simp [qo]
     .rw [gj,gR F,e9 (by omega)]
    rw [S];exact he m us R (V R (n3 k)) Y
   obtain ⟨l,hll,hR⟩:=Ox (λi y z=>A.rd (λ_=>False) W (((f.toList.drop off).drop (i*A.n)).take A.n) z/\D z) c I;have C:l.length=len:=by omega
   have get:∀i (hi:i<l.length),A.rd (λ_=>False) W (((f.toList.drop off).drop (i*A.n)).take A.n) l[i]/\D l[i]:=λi hi=>by obtain ⟨y,k⟩:∃y,c[i]? =some y:=⟨c[i]'(by omega),b5 _⟩;exact hR i y l[i] k (b5 _)
   refine ⟨(some ⟨b,off,none⟩,len,cap),l,o,.inr ⟨b,off,cap,f,e',fr,by rw [C];rfl,(λh=>h),g,by omega,s,?_⟩,⟨by omega,N _ (by omega)⟩,λz hz=>?_⟩
   .have hle:l.length*A.n<=cap*A.n:=c9 _ (by omega);refine ⟨?_,λi hi=>?_⟩
    .simp only [bj,ch,ca];omega
    .have O:i*A.n+A.n<=l.length*A.n:=by rw [<-qS];exact c9 _ hi
     rw [p6,l9,cx (by omega)];exact (get i hi).1
   .obtain ⟨i,hi,rfl⟩:=List.getElem_of_mem hz;exact (get i hi).2
theorem aee{H:Type}{enc:TypeId×Value->H}:∀(n:Nat) (i:TypeId) (t:Ty),fits P n i t=true->∀(o:Nat) (cs:vy) (x:DataW H×List MemPlace),
  (∀n,n<=Rows.uptoBulk x.1->Q n)->DataW.trod enc P W 0 (λ_=>true) true o i cs=some x->∃z:t.T,t.rep.rd (λ_=>False) W cs z/\E6 Q t z:=by
 intro n
 induction n with
 |zero=>intro i t h;cases h
 |succ n ih=>
 intro i t c o cs x R h;unfold fits at c;split at c
 .rename_i k s;split at c
  .obtain ⟨z,q,_,v⟩:=DataW.trod_int s h;have e:=qa c;subst e;exact ⟨z,q,v⟩
  .cases c
 .rename_i s;split at c
  .obtain ⟨z,q,_⟩:=DataW.trod_bool s h;exact ⟨z,q,trivial⟩
  .cases c
 .rename_i s;split at c
  .obtain ⟨⟨⟨z⟩⟩,q,_,v⟩:=DataW.trod_string s h;exact ⟨z,q,v⟩
  .cases c
 .rename_i e s;split at c
  next u=>simp only [ae,gy,du] at c;obtain ⟨⟨q,F⟩,v⟩:=c;obtain ⟨p,zs,a1,a2,a3,Z⟩:=ahV (A:=u.rep) (Q:=Q) (D:=E6 Q u) s q F o cs x R (λo us y J h=>ih e u v o us y J h) h;exact ⟨zs,⟨p,a1,a2⟩,a3,Z⟩
  .cases c
 .rename_i B s;have key:∀t:Ty,y6 P (fits P n) (P.cellsOf i) B.toList 0 t=true->∃z:t.T,t.rep.rd (λ_=>False) W cs z/\E6 Q t z:=λt c=>by
   obtain ⟨xs,m,_,hx,hl,K,N⟩:=DataW.trod_struct s h;have hb:Rows.uptoBulk x.1=Rows.uptoBulkAll (xs.map (·.1))+1:=by rw [hx];simp only [Rows.uptoBulk]
   have O:∀y∈xs,∀n,n<=Rows.uptoBulk y.1->Q n:=λy J n hn=>R n (by have:=CF (d:=y.1) (l:=xs.map (·.1)) (List.mem_map.2 ⟨y,J,rfl⟩);omega)
   have one:∀(j:Nat) (f:Field) (t:Ty),B.toList[j]? =some f->fits P n f.type t=true->∃z:t.T,t.rep.rd (λ_=>False) W ((cs.drop f.offset).take (P.cellsOf f.type)) z/\E6 Q t z:=λj f t G Y=>by
    have E:B[j]? =some f:=by simpa using G
    have q:=N j f E;have M:j<xs.length:=by rw [K];exact (Array.getElem?_eq_some_iff.1 E).1
    rw [b5 M] at q;exact ih f.type t Y m _ _ (O _ (List.getElem_mem _)) q
   have go:∀(r:List Field) (j off:Nat) (t:Ty),B.toList.drop j=r->y6 P (fits P n) (P.cellsOf i) r off t=true->∃z:t.T,t.rep.rd (λ_=>False) W (cs.drop off) z/\E6 Q t z:=λr=>by
    induction r with
    |nil=>intro j off t _ h;cases h
    |cons f r I=>
     intro j off t U c;have G:B.toList[j]? =some f:=by have:=congrArg (·[0]?) U;simpa [et] using this
     have L:B.toList.drop (j+1)=r:=by rw [<-kr,U];rfl
     cases r with
     |nil=>
      simp only [y6,ae,gy] at c;obtain ⟨⟨⟨q,F⟩,v⟩,S⟩:=c;obtain ⟨z,w,C⟩:=one j f t G S;rw [q,ed (by simp;omega)] at w;exact ⟨z,w,C⟩
     |cons g r=>
      unfold y6 at c;split at c
      next a b=>simp only [ae,gy] at c;obtain ⟨⟨⟨q,F⟩,v⟩,S⟩:=c;obtain ⟨z,w,C⟩:=one j f a G v;obtain ⟨y,X,V⟩:=I (j+1) _ b L S;rw [q] at w;refine ⟨(z,y),⟨_,_,?_,w,X⟩,C,V⟩;rw [<-kr];exact (qI ..).symm
      .cases c
   obtain ⟨z,w,C⟩:=go B.toList 0 0 t rfl c;exact ⟨z,by simpa using w,C⟩
  split at c
  .obtain ⟨e,q,F⟩:=aht (ao3 c) o cs x h;exact ⟨e,q,R _ F⟩
  .exact key _ c
  .cases c
 .cases c
def jQ(W:World)(I:ez):Prop:= ∀it∈I,it.1=false/\it.2.cC=true/\∀M,Mv (λ_=>False) W M W->it.2.P M W
theorem jQ.nil:jQ W []:=λit h=>by cases h
theorem jQ.app{I J:ez}(h:jQ W I)(k:jQ W J):jQ W (I++J):=λit a=>by
 rcases List.mem_append.1 a with b|b
 .exact h it b
 .exact k it b
theorem jQ.one{A:dD α}{p:fw}{l:List α}(h:bO A (λ_=>False) W (sl p) l):jQ W [(false,Ef true A p l false)]:=λit a=>by
 rcases List.mem_singleton.1 a with rfl
 exact ⟨rfl,rfl,λM b _=>⟨h.mv b,λh=>by cases h⟩⟩
theorem HN{W:World}:∀(t:Ty) (cs:vy) (x:t.T),Xi t=true->t.rep.rd (λ_=>False) W cs x->∀(o:s3) (N:List Nm),∃I N',O8 t x cs (ra t++o) N I N' o/\jQ W I
 | .i k,cs,x,hn,h,o,N=>⟨[],N,⟨h,rfl,rfl,rfl⟩,.nil⟩
 | .bo,cs,x,hn,h,o,N=>⟨[],N,⟨h,rfl,rfl,rfl⟩,.nil⟩
 | .s,cs,x,hn,h,o,N=>⟨[],N,⟨h,rfl,rfl,rfl⟩,.nil⟩
 | .un,cs,x,hn,h,o,N=>⟨[],N,⟨h,rfl,rfl,rfl⟩,.nil⟩
 | .n,cs,x,hn,h,o,N=>by cases hn
 | .mp _ _,cs,x,hn,h,o,N=>absurd h id
 | .p a b,cs,x,hn,h,o,N=>by
  simp only [Xi,ae] at hn;obtain ⟨c1,e,d,c,q⟩:=h;obtain ⟨g,N1,m,u⟩:=HN a c1 x.1 hn.1 c (ra b++o) N;obtain ⟨f,N2,j,r⟩:=HN b e x.2 hn.2 q o N1;refine ⟨g++f,N2,⟨c1,e,N1,g,f,ra b++o,?_,j,d,rfl⟩,u.app r⟩;rw [show ra (.p a b)++o=ra a++(ra b++o) by simp [ra]];exact m
 | .l t,cs,x,hn,h,o,N=>by
  obtain ⟨p,d,c⟩:=h;exact ⟨_,_,⟨⟨0,p,⟨0,0,none⟩,none,.bool false,⟨.un,()⟩⟩,d,rfl,.inl ⟨rfl,rfl⟩⟩,.one c⟩
 | .ex,cs,x,hn,h,o,N=>by obtain ⟨p,d,c⟩:=HM h;exact ⟨_,_,⟨⟨0,p,⟨0,0,none⟩,none,.bool false,⟨.un,()⟩⟩,d,rfl,.inl ⟨rfl,rfl⟩⟩,.one c⟩
def Arg(W:World)(t:Ty)(v:Value)(z:t.T):Prop:= ∀N:List Nm,∃I N',Sem (aoe t) v none none N [⟨t,z⟩] I [] N'/\jQ W I
theorem Oi{H:Type}{enc:TypeId×Value->H}{o:Nat}{n:Nat}{i:TypeId}(t:Ty)(f:fits P n i t=true){v:Value}{d:DataW H}{ps:List MemPlace}
  (l:Value.okWide P W .any o i v) (x:∀n,n<=Rows.uptoBulk d->Q n) (h:DataW.Trod enc P W 0 (λ_=>true) true i v d ps):∃z:t.T,Arg W t v z/\E6 Q t z:=by
 have q:=h;obtain ⟨m,hx⟩:=h;obtain ⟨z,c,A⟩:=aee n i t f m _ _ x hx;refine ⟨z,?_,A⟩;cases n with
 |zero=>cases f
 |succ n=>
 unfold fits at f;split at f
 .rename_i k j;split at f
  .have e:=qa f;subst e;obtain ⟨y,rfl,_⟩:=open_int j l q;have:y=z:=by
    have c:([.int k y]:vy)=[.int k z]:=c;injection c with c _
    injection c
   subst this;exact λN=>⟨[],N,⟨y,rfl,rfl,rfl,rfl,rfl⟩,.nil⟩
  .cases f
 .rename_i j;split at f
  .obtain ⟨y,rfl,_⟩:=open_bool j l q;have:y=z:=by
    have c:([.bool y]:vy)=[.bool z]:=c;injection c with c _
    injection c
   subst this;exact λN=>⟨[],N,⟨y,rfl,rfl,rfl,rfl,rfl⟩,.nil⟩
  .cases f
 .rename_i j;split at f
  .obtain ⟨⟨⟨y⟩⟩,rfl,_⟩:=open_string j l q;have:y=z:=by
    have c:([S y]:vy)=[S z]:=c;injection c with c _
    injection c with c
    injection c with c
    injection c
   subst this;exact λN=>⟨[],N,⟨y,rfl,rfl,rfl,rfl,rfl⟩,.nil⟩
  .cases f
 .rename_i e j;split at f
  .rename_i u;obtain ⟨a,len,cap,rfl⟩:=okWide_slice j l;obtain ⟨p,w,r⟩:=c;have B:Value.slice a len cap=sl p:=by simpa [Value.cells] using w
   rw [B];exact λN=>⟨_,_,⟨⟨0,p,⟨0,0,none⟩,none,.bool false,⟨.un,()⟩⟩,z,rfl,rfl,rfl,rfl,rfl⟩,.one r⟩
  .cases f
 .rename_i D j;obtain ⟨cs,rfl,_,_⟩:=aob j l;split at f
  .obtain ⟨p,w,r⟩:=HM c;exact λN=>⟨_,_,⟨cs.toList,z,[],by simp,rfl,⟨⟨0,p,⟨0,0,none⟩,none,.bool false,⟨.un,()⟩⟩,w,rfl,.inl ⟨rfl,rfl⟩⟩,rfl⟩,.one r⟩
  .rename_i a b;exact λN=>by
    obtain ⟨I,C,s,g⟩:=HN (.p a b) _ z (LA (λi t=>ZZ n i t) _ _ _ f) c [] N;exact ⟨I,C,⟨cs.toList,z,[],by simp,rfl,by simpa [Value.cells] using s,rfl⟩,g⟩
  .cases f
 .cases f
def alH(W:World)(ps:List Pt)(vs:vy)(D:List bX):Prop:= ∀N:List Nm,∃I N',tX ps vs [] [] N D I [] N'/\jQ W I
theorem akb:alH W [] [] []:=λN=>⟨[],N,⟨rfl,rfl,rfl,rfl,rfl⟩,.nil⟩
theorem Xx{W:World}{t:Ty}{v:Value}{z:t.T}{ps:List Pt}{vs:vy}{D:List bX}(h:Arg W t v z)(k:alH W ps vs D):alH W (aoe t::ps) (v::vs) (⟨t,z⟩::D):=λN=>by obtain ⟨b,N1,d,f⟩:=h N;obtain ⟨a,N2,c,e⟩:=k N1;exact ⟨b++a,N2,⟨v,vs,[⟨t,z⟩],D,b,a,[],[],N1,rfl,d,c,rfl,rfl,rfl⟩,f.app e⟩
theorem akB{I:ez}{Γ:Ctx}(g:jQ W I)(b:FU Γ)(h:Sat Γ W):Sat (dh I++Γ) W:=AP h _ (λit a=>by obtain ⟨x,hx,rfl⟩:=List.mem_map.1 a;exact ⟨(g x hx).2.1,(g x hx).2.2 _ (ajX b)⟩)
namespace To
theorem aoN(a rest:aF)(_:E6 (λ_=>True) .s a)(_:E6 (λ_=>True) .s rest):gZ a rest=some true:=aij a rest
end To
end
end Go.Proofs.YtkedhpmpejhekaaGreatDoor
