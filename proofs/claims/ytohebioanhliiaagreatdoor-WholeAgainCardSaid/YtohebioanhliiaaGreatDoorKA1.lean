/- The symbolic executor: definitions and what operations compute. -/
import Derived.WalkKit
import Derived.KernelRfl
import Derived.ChangeKeysEq
import Derived.Lib.SliceRun
import Derived.Stop.IfaceNil
import Derived.Laws.Cover3
set_option linter.unusedVariables false
set_option linter.unusedSimpArgs false
namespace Go.Sx
theorem af{α:Type _}(a b:α):(some a=some b)=(a=b):=Option.some.injEq a b
theorem ao(a b:Bool):((a&&b)=true)=(a=true/\b=true):=Bool.and_eq_true a b
theorem fy(a b:Bool):((a||b)=true)=(a=true\/b=true):=Bool.or_eq_true a b
theorem aC{p:Prop} [Decidable p]:(decide p=true)=p:=decide_eq_true_eq
theorem ax{α β:Type _}(a:α)(b:β)(c:α)(d:β):((a,b)=(c,d))=(a=c/\b=d):=Prod.mk.injEq a b c d
theorem aO{α:Type _}{a:α}{l:List α}:a∈a::l:=List.mem_cons_self
theorem bp{α:Type _}(y:α){a:α}{l:List α}(h:a∈l):a∈y::l:=List.mem_cons_of_mem y h
theorem bB{α β:Type _}{b:α}{x:Option β}{f:β->α}:Option.map f x=some b↔∃a,x=some a/\f a=b:=Option.map_eq_some_iff
theorem cH{α:Type _}{l:List α}{i:Nat}{a:α}:l.getD i a=l[i]?.getD a:=List.getD_eq_getElem?_getD
theorem cT{α:Type _}{i:Nat}{a:α}{l:List α}:l[i]?=some a↔∃h:i<l.length,l[i]=a:=List.getElem?_eq_some_iff
theorem dJ{α:Type _}{l:List α}{i:Nat}(h:i<l.length):l[i]?=some l[i]:=List.getElem?_eq_getElem h
theorem bq{α:Type _}{b:α}{l:List α}{a:α}:a∈b::l↔a=b\/a∈l:=List.mem_cons
theorem eH{α:Type _}{a b:List α}:(a++b).length=a.length+b.length:=List.length_append
inductive DV where
 |i (n:Int)
 |b (x:Bool)
 |l (xs:List (List Int))
 deriving Inhabited
def DV.int:DV->Int
 |.i n=>n
 |_=>0
def DV.bool:DV->Bool
 |.b x=>x
 |_=>false
def DV.list:DV->List (List Int)
 |.l xs=>xs
 |_=>[]
abbrev az:=Nat->DV
def az.set(U:az)(k:Nat)(d:DV):az:=fun j=>if j=k then d else U j
def az.ar(U:az)(k:Nat):List DV->az
 | []=>U
 |d::ds=>az.ar (az.set U k d) (k+1) ds
inductive IE where
 |v (k:Nat)
 |c (n:Int)
 |add (a b:IE)
 |sub (a b:IE)
 |mul (a b:IE)
 |tdiv (a b:IE)
 |tmod (a b:IE)
 |ediv (a:IE) (n:Nat)
 |emod (a:IE) (n:Nat)
 |shl (a b:IE)
 |shr (a b:IE)
 |wrap (k:IntKind) (a:IE)
 |max (a b:IE)
 |min (a b:IE)
 |bits (op:BinOp) (k:IntKind) (a b:IE)
 |len (k:Nat)
 |get (k:Nat) (i:IE) (j:Nat)
 |kq (i:IE) (n:Nat) (a b:IE)
 deriving DecidableEq,Repr,Inhabited
def cellAt(xs:List (List Int))(i:Int)(j:Nat):Int:=(xs.getD i.toNat []).getD j 0
def IE.ae(U:az):IE->Int
 |.v k=>(U k).int
 |.c n=>n
 |.add a b=>a.ae U+b.ae U
 |.sub a b=>a.ae U-b.ae U
 |.mul a b=>a.ae U*b.ae U
 |.tdiv a b=>(a.ae U).tdiv (b.ae U)
 |.tmod a b=>(a.ae U).tmod (b.ae U)
 |.ediv a n=>a.ae U/(n:Int)
 |.emod a n=>a.ae U%(n:Int)
 |.shl a b=>a.ae U*2 ^ (b.ae U).toNat
 |.shr a b=>a.ae U/2 ^ (b.ae U).toNat
 |.wrap k a=>k.wrap (a.ae U)
 |.max a b=>Max.max (a.ae U) (b.ae U)
 |.min a b=>Min.min (a.ae U) (b.ae U)
 |.bits op k a b=>Go.bits op k (a.ae U) (b.ae U)
 |.len k=>((U k).list.length:Int)
 |.get k i j=>cellAt (U k).list (i.ae U) j
 |.kq i n a b=>if i.ae U=(n:Int)then a.ae U else b.ae U
inductive BE where
 |v (k:Nat)
 |c (x:Bool)
 |lt (a b:IE)
 |le (a b:IE)
 |eq (a b:IE)
 |not (a:BE)
 |and (a b:BE)
 |or (a b:BE)
 |iff (a b:BE)
 |si (a:IE)
 deriving DecidableEq,Repr,Inhabited
def BE.ae(U:az):BE->Bool
 |.v k=>(U k).bool
 |.c x=>x
 |.lt a b=>decide (a.ae U<b.ae U)
 |.le a b=>decide (a.ae U<=b.ae U)
 |.eq a b=>decide (a.ae U=b.ae U)
 |.not a=>!(a.ae U)
 |.and a b=>a.ae U&&b.ae U
 |.or a b=>a.ae U||b.ae U
 |.iff a b=>a.ae U==b.ae U
 |.si a=>decide (a.ae U≠0)
def IE.mk(e:IE):IE:=
 match e with
 |.add (.c a) (.c b)=>.c (a+b)
 |.add a (.c 0)=>a
 |.add (.c 0) a=>a
 |.sub (.c a) (.c b)=>.c (a-b)
 |.sub a (.c 0)=>a
 |.mul (.c a) (.c b)=>.c (a*b)
 |.mul (.c 1) a=>a
 |.mul a (.c 1)=>a
 |.tdiv (.c a) (.c b)=>.c (a.tdiv b)
 |.tmod (.c a) (.c b)=>.c (a.tmod b)
 |.ediv (.c a) n=>.c (a/(n:Int))
 |.emod (.c a) n=>.c (a%(n:Int))
 |.shl (.c a) (.c b)=>.c (a*2 ^ b.toNat)
 |.shr (.c a) (.c b)=>.c (a/2 ^ b.toNat)
 |.wrap k (.c a)=>.c (k.wrap a)
 |.max (.c a) (.c b)=>.c (Max.max a b)
 |.min (.c a) (.c b)=>.c (Min.min a b)
 |.bits op k (.c a) (.c b)=>.c (Go.bits op k a b)
 |.kq (.c i) n a b=>if i=(n:Int)then a else b
 |e=>e
def BE.mk(e:BE):BE:=
 match e with
 |.lt (.c a) (.c b)=>.c (decide (a<b))
 |.le (.c a) (.c b)=>.c (decide (a<=b))
 |.eq (.c a) (.c b)=>.c (decide (a=b))
 |.not (.c a)=>.c (!a)
 |.not (.not a)=>a
 |.and (.c true) a=>a
 |.and (.c false) _=>.c false
 |.and a (.c true)=>a
 |.and _ (.c false)=>.c false
 |.or (.c false) a=>a
 |.or (.c true) _=>.c true
 |.or a (.c false)=>a
 |.or _ (.c true)=>.c true
 |.iff (.c true) a=>a
 |.iff a (.c true)=>a
 |.si (.c a)=>.c (decide (a≠0))
 |e=>e
def BE.gY(G g:BE):Bool:=
 decide (g = .c true)||decide (G=g)||(match G with
   |.and x y=>x.gY g||y.gY g
   |_=>false)
def BE.under(G n:BE):BE:=if G = .c true then n else .or (.not G) n
def inR(k:IntKind)(e:IE):BE:=
 match e with
 |.c n=>.c (decide (k.min<=n)&&decide (n<=k.max))
 |e=>.and (.le (.c k.min) e) (.le e (.c k.max))
inductive CK where
 |i (k:IntKind)
 |b
 |f
 deriving DecidableEq,Repr,Inhabited
inductive c8 where
 |i (k:IntKind) (e:IE)
 |b (e:BE)
 |s (row:Nat)
 |jH
 deriving DecidableEq,Repr,Inhabited
inductive ah where
 |i (k:IntKind) (e:IE)
 |b (e:BE)
 |p (lQ off:Nat)
 |ep (row sz:Nat) (i:IE) (j:Nat)
 |pi (lQ off sz n:Nat) (x:IE)
 |s (row:Nat)
 |jH
 |QC
 |f (f:FuncId)
 |fn (g:FuncId) (dg:List (Bool×Nat))
 |fl (e:IE)
 |str (bs:List UInt8)
 |QD
 |EL
 |bf (g:FuncId) (agg:Bool) (ls:List c8)
 |vw (row sz:Nat) (lo n:IE)
 |cs (row:Nat)
 |bs (lQ n sz:Nat)
 |kb (row:Nat) (bytes:List UInt8)
 |ab (row i:Nat) (b:UInt8)
 deriving DecidableEq,Repr,Inhabited
def c8.up:c8->ah
 |.i k e=>.i k e
 |.b e=>.b e
 |.s r=>.s r
 |.jH=>.jH
def ah.down:ah->Option c8
 |.i k e=>some (.i k e)
 |.b e=>some (.b e)
 |.s r=>some (.s r)
 |.jH=>some .jH
 |_=>none
inductive V1 where
 |one (l:ah)
 |agg (ls:List ah)
 deriving DecidableEq,Repr,Inhabited
inductive SV where
 |v (x:V1)
 |ED (xs:List V1)
 deriving DecidableEq,Repr,Inhabited
structure Ph where
 r:Nat->Nat
 v:Nat->Option Addr×Nat×Nat
 z:Nat->Prop
def Ph.nA(ph:Ph)(k n:Nat):Ph:={ph with r:=fun j=>if j=k then n else ph.r j}
def Ph.tG(ph:Ph)(k:Nat)(x:Option Addr×Nat×Nat):Ph:={ph with v:=fun j=>if j=k then x else ph.v j}
def Ph.val(ph:Ph)(k:Nat):Value:=.slice (ph.v k).1 (ph.v k).2.1 (ph.v k).2.2
def c8.ae(U:az)(ph:Ph):c8->Value
 |.i k e=>.int k (e.ae U)
 |.b e=>.bool (e.ae U)
 |.s row=>ph.val row
 |.jH=>.slice none 0 0
def kJ(ph:Ph)(c:Bool×Nat):Value:=if c.1 then .pointer (ph.v c.2).1 else .pointer (some ⟨ph.r c.2,0,none⟩)
def ah.ae(U:az)(ph:Ph):ah->Value
 |.i k e=>.int k (e.ae U)
 |.b e=>.bool (e.ae U)
 |.p id off=>.pointer (some ⟨ph.r id,off,none⟩)
 | .ep row sz x j=>match(ph.v row).1 with
   |some a=>.pointer (some (a.add ((x.ae U).toNat*sz+j)))
   |none=>.pointer none
 |.pi id off sz _ x=>.pointer (some ⟨ph.r id,off+(x.ae U).toNat*sz,none⟩)
 |.s row=>ph.val row
 |.jH=>.slice none 0 0
 |.QC=>.pointer none
 |.f g=>.func (.func g) #[] #[]
 |.fn g dg=>.func (.func g) #[] (dg.map (kJ ph)).toArray
 |.fl e=>.float .f64 (e.ae U).toNat
 |.str bytes=>.string ⟨bytes.toArray⟩
 |.QD=>.nilFunc
 |.EL=>.nilIface
 |.bf g agg ls=>.func (.func g) #[if agg then .agg (ls.map (c8.ae U ph)).toArray else(ls.map (c8.ae U ph)).headD undef] #[]
 |.vw row sz lo n=>.slice (if(ph.v row).2.2=(lo.ae U).toNat then(ph.v row).1 else(ph.v row).1.map (·.add ((lo.ae U).toNat*sz))) (n.ae U).toNat ((ph.v row).2.2-(lo.ae U).toNat)
 |.cs row=>.slice (ph.v row).1 (ph.v row).2.1 (ph.v row).2.1
 |.bs id n _=>.slice (some ⟨ph.r id,0,none⟩) n n
 |.kb row _=>ph.val row
 | .ab row m _=>match(ph.v row).1 with
   |some a=>.pointer (some (a.add m))
   |none=>.pointer none
def V1.ae(U:az)(ph:Ph):V1->Value
 |.one l=>l.ae U ph
 |.agg ls=>.agg (ls.map (ah.ae U ph)).toArray
def SV.ae(U:az)(ph:Ph):SV->Value
 |.v x=>x.ae U ph
 |.ED xs=>.tuple (xs.map (V1.ae U ph)).toArray
structure aP where
 g:BE
 sv:SV
 deriving DecidableEq,Repr,Inhabited
def aP.ae(U:az)(ph:Ph)(s:aP):Value:=if s.g.ae U then s.sv.ae U ph else undef
structure gC where
 id:Nat
 ty:TypeId
 cells:List ah
 deriving DecidableEq,Repr,Inhabited
structure Row where
 id:Nat
 e:TypeId
 ks:List CK
 lv:Nat
 own:Bool
 g:BE
 deriving DecidableEq,Repr,Inhabited
inductive NK where
 |c (k:CK)
 |s (e:TypeId) (k:CK)
 deriving DecidableEq,Repr,Inhabited
structure dG where
 id:Nat
 e:TypeId
 aK:List NK
 lv:Nat
 g:BE
 own:Bool
 deriving DecidableEq,Repr,Inhabited
structure St where
 tmps:List (Option aP)
 aT:List gC
 rows:List Row
 aY:List dG:=[]
 next:Nat
 nz:List (Nat×Nat)
 deriving DecidableEq,Repr,Inhabited
def St.has(st:St)(k:Nat):Bool:=decide (k<st.next)||st.nz.any fun d=>decide (d.1<=k)&&decide (k<d.2)
def St.free(st:St)(a n:Nat):Bool:=decide (st.next<=a)&&st.nz.all fun d=>decide (a+n<=d.1)||decide (d.2<=a)
def uN(d:Nat×Nat):List (Nat×Nat)->List (Nat×Nat)
 | []=>[d]
 |x::xs=>if x.1<d.1 then d::x::xs else x::uN d xs
def St.bn(st:St)(a n:Nat):St:={st with nz:=uN (a,a+n) st.nz}
def IE.all(p:Nat->Bool):IE->Bool
 |.v k| .len k=>p k
 |.c _=>true
 |.add a b| .sub a b| .mul a b| .tdiv a b| .tmod a b| .shl a b| .shr a b| .max a b| .min a b| .bits _ _ a b=>a.all p&&b.all p
 |.ediv a _| .emod a _| .wrap _ a=>a.all p
 |.get k i _=>p k&&i.all p
 |.kq i _ a b=>i.all p&&(a.all p&&b.all p)
def BE.all(p:Nat->Bool):BE->Bool
 |.v k=>p k
 |.c _=>true
 |.lt a b| .le a b| .eq a b=>a.all p&&b.all p
 |.not a=>a.all p
 |.and a b| .or a b| .iff a b=>a.all p&&b.all p
 |.si a=>a.all p
def c8.all(p:Nat->Bool):c8->Bool
 |.i _ e=>e.all p
 |.b e=>e.all p
 |.s row=>p row
 |.jH=>true
def ah.all(p:Nat->Bool):ah->Bool
 |.i _ e=>e.all p
 |.b e=>e.all p
 |.p id _=>p id
 |.ep row _ x _=>p row&&x.all p
 |.pi id _ _ _ x=>p id&&x.all p
 |.s row=>p row
 |.jH| .QC| .f _=>true
 |.fn _ dg=>dg.all fun c=>p c.2
 |.fl e=>e.all p
 |.str _| .QD| .EL=>true
 |.bf _ _ ls=>ls.all (c8.all p)
 |.vw row _ lo n=>p row&&(lo.all p&&n.all p)
 |.cs row=>p row
 |.bs id _ _=>p id
 |.kb row _=>p row
 |.ab row _ _=>p row
def bh(p:Nat->Bool):List ah->Bool
 | []=>true
 |l::ls=>l.all p&&bh p ls
def V1.all(p:Nat->Bool):V1->Bool
 |.one l=>l.all p
 |.agg ls=>bh p ls
def dm(p:Nat->Bool):List V1->Bool
 | []=>true
 |x::xs=>x.all p&&dm p xs
def SV.all(p:Nat->Bool):SV->Bool
 |.v x=>x.all p
 |.ED xs=>dm p xs
def aP.all(p:Nat->Bool)(s:aP):Bool:=s.g.all p&&s.sv.all p
def gC.all(p:Nat->Bool)(b:gC):Bool:=p b.id&&bh p b.cells
def Row.all(p:Nat->Bool)(r:Row):Bool:=p r.id&&(p r.lv&&r.g.all p)
def dG.all(p:Nat->Bool)(r:dG):Bool:=p r.id&&(p r.lv&&r.g.all p)
inductive CT where
 |c (k:CK)
 |s (e:TypeId) (ks:List CK)
 |n (e:TypeId) (aK:List NK)
 deriving DecidableEq,Repr,Inhabited
inductive VT where
 |one (c:CT)
 |agg (cs:List CT)
 |ptr (e:TypeId) (ks:List CK)
 |fn (g:FuncId) (cs:List (TypeId×IntKind))
 deriving DecidableEq,Repr,Inhabited
structure bN where
 args:List VT
 res:List VT
 cons:Nat:=0
 deriving DecidableEq,Repr,Inhabited
inductive DE where
 |i (e:IE)
 |b (e:BE)
 |l (k:Nat)
 |nil
 |rows (es:List IE)
 |sU (xs:List (Sum IE BE))
 deriving DecidableEq,Repr,Inhabited
def bV(U:az):Sum IE BE->Int
 |.inl e=>e.ae U
 |.inr b=>if b.ae U then 1 else 0
def DE.ae(U:az):DE->DV
 |.i e=>.i (e.ae U)
 |.b e=>.b (e.ae U)
 |.l k=>.l (U k).list
 |.nil=>.l []
 |.rows es=>.l (es.map fun e=>[e.ae U])
 |.sU xs=>.l [xs.map (bV U)]
def VT.bD:VT->List CT
 |.one c=>[c]
 |.agg cs=>cs
 |.ptr e ks=>[.s e ks]
 |.fn _ cs=>cs.map fun c=>.s c.1 [.i c.2]
def bD(vs:List VT):List CT:=vs.flatMap VT.bD
inductive bW where
 |c (x:Sum IE BE)
 |s (lv:Nat)
 |nil
 deriving DecidableEq,Repr,Inhabited
def bW.head(U:az):bW->Int
 |.c x=>bV U x
 |.s lv=>((U lv).list.length:Int)
 |.nil=>0
def bW.tail(U:az):bW->List Int
 |.s lv=>(U lv).list.map fun r=>r.getD 0 0
 |_=>[]
inductive cZ where
 |lit (rows:List (List (Sum IE BE)))
 |app (a b:Nat)
 |set (a:Nat) (i:IE) (j:Nat) (x:Sum IE BE)
 |xm (a:Nat) (i:IE) (xs:List (Sum IE BE))
 |zu (a:Nat) (i:IE) (j:Nat) (xs:List (Sum IE BE))
 |take (a:Nat) (n:IE)
 |rep (n:IE) (row:List Int)
 |cp (a:Nat)
 |sub (a:Nat) (i:IE) (aK:List NK) (j:Nat)
 |Qh (a b:Nat)
 |zA (rows:List (List bW))
 deriving DecidableEq,Repr,Inhabited
def nD:List NK->List Int->List Int->Nat->List Int
 | [],_,_,_=>[]
 |.c _::_,_,_,0=>[]
 |.c _::aK,hs,rest,j+1=>nD aK hs.tail rest j
 |.s _ _::_,hs,rest,0=>rest.take (hs.headD 0).toNat
 |.s _ _::aK,hs,rest,j+1=>nD aK hs.tail (rest.drop (hs.headD 0).toNat) j
def dK(aK:List NK)(r:List Int)(j:Nat):List Int:=nD aK (r.take aK.length) (r.drop aK.length) j
def nB(r:List Int)(j:Nat)(x:Int):List Int:=if j<r.length then r.set j x else r++(List.replicate (j-r.length) 0++[x])
def iL(r:List Int)(j:Nat):List Int->List Int
 | []=>r
 |x::xs=>iL (nB r j x) (j+1) xs
def setAt(xs:List (List Int))(i:Int)(j:Nat)(x:Int):List (List Int):=xs.modify i.toNat (fun r=>nB r j x)
def cZ.ae(U:az):cZ->List (List Int)
 |.lit rows=>rows.map fun r=>r.map (bV U)
 |.app a b=>(U a).list++(U b).list
 |.set a i j x=>setAt (U a).list (i.ae U) j (bV U x)
 |.xm a i xs=>(U a).list.modify (i.ae U).toNat (fun _=>xs.map (bV U))
 |.zu a i j xs=>(U a).list.modify (i.ae U).toNat (fun r=>iL r j (xs.map (bV U)))
 |.take a n=>(U a).list.take (n.ae U).toNat
 |.rep n row=>List.replicate (n.ae U).toNat row
 |.cp a=>(U a).list
 |.sub a i aK j=>(dK aK ((U a).list.getD (i.ae U).toNat []) j).map fun x=>[x]
 |.Qh a b=>(U b).list.take (U a).list.length++(U a).list.drop (U b).list.length
 |.zA rows=>rows.map fun r=>r.map (bW.head U)++r.flatMap (bW.tail U)
inductive Ev where
 |aG (p:BE)
 |call (f:FuncId) (g:BE) (args:List DE) (res:List VT) (base:Nat)
 |ch (id:Nat) (op:cZ)
 |dd (p:BE) (e:IE)
 deriving DecidableEq,Repr,Inhabited
inductive aw where
 |ret (bJ:List DE)
 |stuck (why:String)
 |ev (e:Ev) (t:aw)
 |ite (c:BE) (t e:aw)
 |loop (id:Nat) (entry:List DE) (ks:List CT) (base:Nat) (body:aw)
 |again (id:Nat) (bJ:List DE)
 |fail (e:IE)
 |ak5 (x:Nat) (tp t:aw)
 |pop (t:aw)
 deriving DecidableEq,Repr,Inhabited
structure Hint where
 cells:List (Nat×Nat)
 rows:List (Nat×TypeId×List CK)
 fG:List Nat:=[]
 aY:List (Nat×TypeId×List NK):=[]
 Zo:List (Nat×Nat×TypeId×List CK):=[]
 deriving Inhabited
structure jo where
 sig:FuncId->Option bN
 fF:Bool
 loops:List (Nat×Hint)
 splits:List (Nat×Nat×Nat)
 inl:List FuncId:=[]
 aG:Option FuncId:=none
 uX:Option FuncId:=none
 cK:TypeId:=0
 nE:TypeId:=0
 Tj:List (Nat×List Nat×List Nat):=[]
 Dk:List Nat:=[]
 vM:List (Nat×List Int):=[]
 dB:Option St:=none
 wG:Option FuncId:=none
 bsl:List TypeId:=[]
 xx:Option (Nat×Nat):=none
 no:List (Nat×Int):=[]
 deriving Inhabited
def xg(P:Program)(g:TypeId->Option (List CK)):Nat->List Field->Option (List CK)
 |_,[]=>some []
 | off,f::fs=>if f.offset=off then(match g f.type with
   | some m=>if P.cellsOf f.type=m.length/\0<m.length then(match xg P g (off+m.length) fs with
     |some r=>some (m++r)
     |none=>none)else none
   |none=>none)else none
def flat(P:Program):Nat->TypeId->Option (List CK)
 |0,_=>none
 | n+1,t=>
   match P.underlying t with
   |some (.int k)=>some [.i k]
   |some .bool=>some [.b]
   |some (.struct fs)=>xg P (flat P n) 0 fs.toList
   | some (.array len e)=>match flat P n e with
     |some m=>if P.cellsOf e=m.length/\0<m.length then some (List.replicate len m).flatten else none
     |none=>none
   |_=>none
def fM(P:Program)(t:TypeId):Bool:=
 match P.underlying t with
 |some (.struct _)|some (.array _ _)=>true
 |_=>false
def ofConst:Value->Option V1
 |.int k n=>some (.one (.i k (.c n)))
 |.bool x=>some (.one (.b (.c x)))
 |.slice none 0 0=>some (.one .jH)
 |.string s=>some (.one (.str s.data.toList))
 |.nilIface=>some (.one .EL)
 |_=>none
def Ie(st:St)(G:BE):Operand->Option SV
 | .tmp t=>match st.tmps[t]? with
   |some (some s)=>if G.gY s.g then some s.sv else none
   |_=>none
 |.const v=>(ofConst v).map SV.v
 |.func f=>some (.v (.one (.f f)))
 |.global _=>none
def jM(st:St)(G:BE)(x:Operand):Option V1:=
 match Ie st G x with
 |some (.v x)=>some x
 |_=>none
def bl(st:St)(G:BE)(x:Operand):Option ah:=
 match Ie st G x with
 |some (.v (.one l))=>some l
 |_=>none
def KB(wr:Bool)(k:IntKind)(e:IE):List BE×ah:=
 match e with
 |.c n=>([],.i k (.c (k.wrap n)))
 |e=>if wr then([],.i k (.wrap k e))else([inR k e],.i k e)
def arith(wr:Bool)(k:IntKind)(e:IE):List BE×ah:=KB wr k e.mk
def xe:Nat->Int->Option Nat
 |0,_=>none
 |m+1,n=>if n+1=((2 ^ m:Nat):Int)then some m else xe m n
def KC(wr:Bool)(op:BinOp)(x y:ah):Option (List BE×ah):=
 match op,x,y with
 |.shl,.i k a,.i _ (.c n)=>if 0<=n/\n<=62/\n<=k.bits then some (arith wr k (.mul a (.c ((2 ^ n.toNat:Nat):Int))))else none
 |.shl,.i k a,.i _ b=>let r:=arith wr k (.shl a b);some ((BE.le (.c 0) b).mk::(BE.le b (.c (k.bits:Int))).mk::r.1,r.2)
 |.shr,.i k a,.i _ (.c n)=>if 0<=n/\n<=64/\n<=k.bits then some ([],.i k (IE.ediv a (2 ^ n.toNat)).mk)else none
 |.shr,.i k a,.i _ b=>some ([(BE.le (.c 0) b).mk,(BE.le b (.c (k.bits:Int))).mk],.i k (IE.shr a b).mk)
 |.add,.i k a,.i k' b=>if k=k' then some (arith wr k (.add a b))else none
 |.sub,.i k a,.i k' b=>if k=k' then some (arith wr k (.sub a b))else none
 |.mul,.i k a,.i k' b=>if k=k' then some (arith wr k (.mul a b))else none
 |.quo,.i k a,.i k' b=>if k=k' then let r:=arith wr k (.tdiv a b);some ((BE.si b).mk::r.1,r.2)else none
 |.rem,.i k a,.i k' b=>if k=k' then some ([(BE.si b).mk],.i k (IE.tmod a b).mk)else none
 |.and,.i k a,.i k' (.c n)=>if k=k' then(match k,xe 63 n with
     |.i64,some m=>some ([],.i k (IE.emod a (2 ^ m)).mk)
     |.u64,some m=>some ([],.i k (IE.emod a (2 ^ m)).mk)
     |_,_=>some ([],.i k (IE.bits .and k a (.c n)).mk))else none
 |.and,.i k a,.i k' b=>if k=k' then some ([],.i k (IE.bits .and k a b).mk)else none
 |.or,.i k a,.i k' b=>if k=k' then some ([],.i k (IE.bits .or k a b).mk)else none
 |.xor,.i k a,.i k' b=>if k=k' then some ([],.i k (IE.bits .xor k a b).mk)else none
 |.andNot,.i k a,.i k' b=>if k=k' then some ([],.i k (IE.bits .andNot k a b).mk)else none
 |.lss,.i k a,.i k' b=>if k=k' then some ([],.b (BE.lt a b).mk)else none
 |.leq,.i k a,.i k' b=>if k=k' then some ([],.b (BE.le a b).mk)else none
 |.gtr,.i k a,.i k' b=>if k=k' then some ([],.b (BE.lt b a).mk)else none
 |.geq,.i k a,.i k' b=>if k=k' then some ([],.b (BE.le b a).mk)else none
 |.eql,.i k a,.i k' b=>if k=k' then some ([],.b (BE.eq a b).mk)else none
 |.neq,.i k a,.i k' b=>if k=k' then some ([],.b (BE.not (BE.eq a b).mk).mk)else none
 |_,_,_=>none
def ER:ah->ah->Option BE
 |.i k a,.i k' b=>if k=k' then some (BE.eq a b).mk else none
 |.b a,.b b=>some (BE.iff a b).mk
 |_,_=>none
def oC:List ah->List ah->Option BE
 | [],[]=>some (.c true)
 | x::xs,y::ys=>match ER x y,oC xs ys with
   |some p,some q=>some (BE.and p q).mk
   |_,_=>none
 |_,_=>none
def fits:CK->ah->Bool
 |.i k,.i k' _=>decide (k=k')
 |.b,.b _=>true
 |.f,.fl _=>true
 |_,_=>false
def ln:List CK->List ah->Bool
 | [],[]=>true
 |k::ks,l::ls=>fits k l&&ln ks ls
 |_,_=>false
def Uo(P:Program)(t:TypeId)(x y:V1):Option BE:=
 match x,y with
 | .one (.b a),.one (.b b)=>match P.underlying t with
   |some .bool=>some (BE.iff a b).mk
   |_=>none
 | .agg xs,.agg ys=>match flat P 16 t with
   |some ks=>if ln ks xs&&ln ks ys&&fM P t && !P.eqGuardType P.depth t && !uI P 16 t then oC xs ys else none
   |none=>none
 |_,_=>none
where
 uI (P:Program):Nat->TypeId->Bool
   |0,_=>true
   | n+1,t=>match P.underlying t with
     |some (.struct fs)=>P.stoodInHeld t||fs.toList.any fun f=>f.name == "_" ||uI P n f.type
     |some (.array _ e)=>uI P n e
     |_=>false
def fz(st:St)(id:Nat):Option gC:=st.aT.find? (fun b=>b.id==id)
def bC(st:St)(id:Nat):Option Row:=st.rows.find? (fun r=>r.id==id)
def eC(st:St)(id:Nat):Option dG:=st.aY.find? (fun r=>r.id==id)
def oD(lv:Nat)(i:IE)(j:Nat):CK->ah
 |.i k=>.i k (.get lv i j)
 |.b=>.b (.si (.get lv i j))
 |.f=>.fl (.get lv i j)
def lR(lv:Nat)(i:IE):Nat->List CK->List ah
 |_,[]=>[]
 |j,k::ks=>oD lv i j k::lR lv i (j+1) ks
def ES(ls:List ah)(off n:Nat):Option (List ah):=if off+n<=ls.length then some ((ls.drop off).take n)else none
def pT(P:Program)(t:TypeId)(cs:List ah)(off:Nat):Option V1:=
 if(P.underlying t).isSome&&decide (0<P.cellsOf t)then
   (if fM P t then(ES cs off (P.cellsOf t)).map V1.agg else(cs[off]?).map V1.one)
 else none
def ry(x:IE):Nat->List ah->Option ah
 |_,[]=>none
 |_,[l]=>some l
 | j,l::ls=>match l,ry x (j+1) ls with
   |.i k a,some (.i k' b)=>if k=k' then some (.i k (.kq x j a b))else none
   |.b p,some (.b q)=>some (.b (.or (.and (.eq x (.c (j:Int))) p) (.and (.not (.eq x (.c (j:Int)))) q)))
   |_,_=>none
def pU(cells:List ah)(off sz:Nat):Nat->Option (List ah)
 |0=>some []
 | n+1=>match cells[off]?,pU cells (off+sz) sz n with
   |some l,some ls=>some (l::ls)
   |_,_=>none
def C2(cells:List ah)(off sz n:Nat)(x:IE):Option ah:=
 match pU cells off sz n with
 |some ls=>ry x 0 ls
 |none=>none
def pV(cells:List ah)(sz n:Nat)(x:IE):Nat->Nat->Option (List ah)
 |_,0=>some []
 | off,m+1=>match C2 cells off sz n x,pV cells sz n x (off+1) m with
   |some l,some ls=>some (l::ls)
   |_,_=>none
def KF(P:Program)(t:TypeId)(r:Row)(i:IE)(j:Nat):Option (List BE×V1):=
 match r.ks,i,j with
 | [k],.c (.ofNat n),0=>if(P.underlying t).isSome&&decide (0<P.cellsOf t)&&fM P t then
     some ([(BE.le (.c ((n+P.cellsOf t:Nat):Int)) (.len r.lv)).mk],.agg ((List.range (P.cellsOf t)).map fun(q:Nat)=>oD r.lv (.c ((n+q:Nat):Int)) 0 k))else none
 |_,_,_=>none
def Af(P:Program)(st:St)(G:BE)(t:TypeId):ah->Option (List BE×V1)
 | .p id off=>match fz st id with
   |some b=>(pT P t b.cells off).map fun v=>([],v)
   |none=>none
 | .pi id off sz n x=>match fz st id with
   |some b=>if !((P.underlying t).isSome&&decide (0<P.cellsOf t))then none else if fM P t then(pV b.cells sz n x off (P.cellsOf t)).map fun ls=>([(BE.le (.c 0) x).mk,(BE.lt x (.c (n:Int))).mk],V1.agg ls)
       else(C2 b.cells off sz n x).map fun l=>([(BE.le (.c 0) x).mk,(BE.lt x (.c (n:Int))).mk],V1.one l)
   |none=>none
 | .ep row sz i j=>match bC st row with
   |some r=>if G.gY r.g&&decide (r.ks.length=sz)then
       (match pT P t (lR r.lv i 0 r.ks) j with
       |some v=>some ([(BE.le (.c 0) i).mk,(BE.lt i (.len r.lv)).mk],v)
       |none=>KF P t r i j)else none
   |none=>none
 | .ab row i b=>match bC st row with
   |some r=>if G.gY r.g&&decide (r.ks=[.i .u8])&&(P.underlying t).isSome&&decide (P.cellsOf t=1) && !fM P t then
       some ([(BE.lt (.c (i:Int)) (.len r.lv)).mk,(BE.eq (.get r.lv (.c (i:Int)) 0) (.c (b.toNat:Int))).mk],.one (.i .u8 (.c (b.toNat:Int))))else none
   |none=>none
 |_=>none
def Bp(row sz:Nat)(i:IE)(j o:Nat):ah:=
 match sz,i,j with
 |1,.c (.ofNat n),0=>.ep row 1 (.c ((n+o:Nat):Int)) 0
 |_,_,_=>.ep row sz i (j+o)
def qa(P:Program)(s:TypeId)(f:Nat):Option (Nat×TypeId):=
 match P.underlying s with
 | some (.struct fs)=>match fs[f]? with
   |some fd=>if P.cellsOf fd.type=0 then none else some (fd.offset,fd.type)
   |none=>none
 |_=>none
def KK(P:Program)(st:St)(G:BE)(t:TypeId)(x:ah)(k:IntKind)(i:IE):Option (List BE×ah):=
 match P.underlying t,x with
 | some (.array len e),.p id off=>match i with
   |.c n=>if 0<=n/\n<(len:Int)/\1<len/\(P.info? e).isSome=true then some ([],.p id (off+n.toNat*P.cellsOf e))else none
   |x=>if 1<len/\(P.info? e).isSome=true then some ([(BE.le (.c 0) x).mk,(BE.lt x (.c (len:Int))).mk],.pi id off (P.cellsOf e) len x)else none
 | some (.array len e),.ep row sz r j=>match bC st row with
   |some rr=>if r = .c 0/\j=0/\rr.ks.length=sz/\P.cellsOf e=sz/\(P.info? e).isSome=true/\1<len/\G.gY rr.g=true then
       some ([(BE.le (.c 0) i).mk,(BE.lt i (.c (len:Int))).mk,(BE.lt i (.len rr.lv)).mk],.ep row sz i 0)else(match i with
   | .c n=>match bC st row with
     |some rr=>if 0<=n/\n<(len:Int)/\1<len/\(P.info? e).isSome=true/\G.gY rr.g=true then some ([(BE.le (.c 0) r).mk,(BE.lt r (.len rr.lv)).mk],.ep row sz r (j+n.toNat*P.cellsOf e))else none
     |none=>none
   |_=>none)
   |none=>none
 | some (.slice e),.s row=>match bC st row with
   |some r=>if G.gY r.g&&decide (P.cellsOf e=r.ks.length)then some ([(BE.le (.c 0) i).mk,(BE.lt i (.len r.lv)).mk],.ep row r.ks.length i 0)else none
   | none=>match eC st row with
     |some r=>if G.gY r.g&&decide (P.cellsOf e=r.aK.length)then some ([(BE.le (.c 0) i).mk,(BE.lt i (.len r.lv)).mk],.ep row r.aK.length i 0)else none
     |none=>none
 | some (.slice e),.vw row sz lo n=>match bC st row with
   |some r=>if G.gY r.g&&decide (P.cellsOf e=sz)&&decide (r.ks.length=sz)then some ([(BE.le (.c 0) i).mk,(BE.lt i n).mk,(BE.le (.c 0) lo).mk,(BE.le (.add lo n) (.len r.lv)).mk],.ep row sz (IE.add lo i).mk 0)else none
   |none=>none
 | some (.slice e),.kb row bs=>match bC st row with
   | some r=>if G.gY r.g&&decide (P.cellsOf e=1)&&decide (r.ks.length=1)then(match i with
     |.c m=>if 0<=m then(bs[m.toNat]?).map fun b=>([(BE.lt (.c m) (.len r.lv)).mk],.ab row m.toNat b)else none
     |_=>none)else none
   |none=>none
 | some (.slice e),.bs id n sz=>if decide (P.cellsOf e=sz)&&(P.info? e).isSome then(match i with
   |.c m=>if 0<=m/\m<(n:Int)then some ([],.p id (m.toNat*sz))else none
   |x=>some ([(BE.le (.c 0) x).mk,(BE.lt x (.c (n:Int))).mk],.pi id 0 sz n x))else none
 |_,_=>none
def gJ(cells:List ah)(off:Nat):List ah->List ah
 | []=>cells
 |l::ls=>gJ (cells.set off l) (off+1) ls
def V1.leaves:V1->List ah
 |.one l=>[l]
 |.agg ls=>ls
def Ah(place:Nat->Option (Nat×Nat))(cells:List ah):List (Nat×V1)->Option (List ah)
 | []=>some cells
 | (i,v)::rest=>match place i with
   |none=>none
   | some (off,size)=>if v.leaves.length≠size\/off+v.leaves.length>cells.length then none
     else Ah place (gJ cells off v.leaves) rest
def p8:Value->Option ah
 |.int k n=>some (.i k (.c n))
 |.bool x=>some (.b (.c x))
 |.slice none 0 0=>some .jH
 |.pointer none=>some .QC
 |.nilFunc=>some .QD
 |.nilIface=>some .EL
 |.string s=>some (.str s.data.toList)
 |_=>none
def nQ(P:Program)(t:TypeId):Option V1:=
 match(P.info? t).bind (·.zero)with
 |some (.agg cs)=>(cs.toList.mapM p8).map V1.agg
 |some v=>(p8 v).map V1.one
 |none=>none
def sM(P:Program)(t:TypeId):Option (Nat->Option (Nat×Nat)):=
 match P.underlying t with
 |some (.struct fs)=>if fs.toList.all (fun f=>(P.info? f.type).isSome)then some fun i=>(fs[i]?).map fun f=>(f.offset,P.cellsOf f.type)else none
 |some (.array _ e)=>if(P.info? e).isSome then some fun i=>some (i*P.cellsOf e,P.cellsOf e)else none
 |_=>none
def gp(st:St)(G:BE):List (Nat×Operand)->Option (List (Nat×V1))
 | []=>some []
 | (i,x)::rest=>match jM st G x,gp st G rest with
   |some v,some l=>some ((i,v)::l)
   |_,_=>none
def jY(st:St)(G:BE):List Operand->Option (List V1)
 | []=>some []
 | x::rest=>match jM st G x,jY st G rest with
   |some v,some l=>some (v::l)
   |_,_=>none
def p9(st:St)(G:BE):List Operand->Option (List (Bool×Nat))
 | []=>some []
 | x::rest=>match bl st G x,p9 st G rest with
   |some (.p id 0),some l=>some ((false,id)::l)
   |some (.ep row 1 (.c 0) 0),some l=>some ((true,row)::l)
   |_,_=>none
def C4:List ah->Option (List c8)
 | []=>some []
 | l::ls=>match l.down,C4 ls with
   |some x,some xs=>some (x::xs)
   |_,_=>none
def isConst:Operand->Bool
 |.const _=>true
 |_=>false
def QI(P:Program)(st:St)(G:BE)(t:TypeId)(X Y:Operand)(x y:V1):Option (List BE×BE):=
 match x,y with
 | .one .jH,.one .jH=>match P.underlying t with
   |some (.slice _)=>some ([],.c true)
   |_=>none
 | .one (.s row),.one .jH=>match P.underlying t,bC st row with
   |some (.slice _),some r=>if G.gY r.g then some ([(BE.lt (.c 0) (.len r.lv)).mk],.c false)else none
   |_,_=>none
 | .one (.str a),.one (.str b)=>match P.underlying t with
   |some .string=>some ([],.c (decide (a=b)))
   |_=>none
 | .one .EL,.one .EL=>match P.underlying t with
   |some (.interface _)=>if isConst X||isConst Y then some ([],.c true)else none
   |_=>none
 |_,_=>none
def Ut(P:Program)(wr:Bool)(st:St)(G:BE)(op:Op):Option (List BE×SV):=
 match op with
 |.move x| .assign x=>(Ie st G x).map fun v=>([],v)
 | .pick c a b=>match bl st G c with
   | some (.b p)=>match bl st (BE.and G p).mk a,bl st (BE.and G (BE.not p).mk).mk b with
     |some (.b x),some (.b y)=>some ([],.v (.one (.b (match y,x with
         |.c false,x=>(BE.and p x).mk
         |y,.c true=>(BE.or p y).mk
         |y,x=>(BE.or (BE.and p x).mk (BE.and (BE.not p).mk y).mk).mk))))
     |_,_=>none
   |_=>none
 | .binOp .eql t x y _=>match jM st G x,jM st G y with
   |some (.one (.i k a)),some (.one (.i k' b))=>(KC wr .eql (.i k a) (.i k' b)).map fun r=>(r.1,.v (.one r.2))
   | some u,some v=>match QI P st G t x y u v with
     |some r=>some (r.1,.v (.one (.b r.2)))
     |none=>(Uo P t u v).map fun p=>([],.v (.one (.b p)))
   |_,_=>none
 | .binOp .neq t x y _=>match jM st G x,jM st G y with
   |some (.one (.i k a)),some (.one (.i k' b))=>(KC wr .neq (.i k a) (.i k' b)).map fun r=>(r.1,.v (.one r.2))
   | some u,some v=>match QI P st G t x y u v with
     |some r=>some (r.1,.v (.one (.b (BE.not r.2).mk)))
     |none=>(Uo P t u v).map fun p=>([],.v (.one (.b (BE.not p).mk)))
   |_,_=>none
 | .binOp op _ x y _=>match bl st G x,bl st G y with
   |some a,some b=>(KC wr op a b).map fun r=>(r.1,.v (.one r.2))
   |_,_=>none
 | .unOp .not _ x=>match bl st G x with
   |some (.b p)=>some ([],.v (.one (.b (BE.not p).mk)))
   |_=>none
 | .unOp .neg _ x=>match bl st G x with
   |some (.i k a)=>let r:=arith wr k (.sub (.c 0) a);some (r.1,.v (.one r.2))
   |_=>none
 | .convert src dst x=>match bl st G x,P.underlying src,P.underlying dst with
   | some (.i k a),some _,some (.int k')=>
     if k=k'||(decide (k' = .i64)&&decide (k≠.u64))then(let r:=arith wr k' a;some (r.1,.v (.one r.2)))
     else some ([],.v (.one (.i k' (IE.wrap k' a).mk)))
   |_,_,_=>none
 | .load t x=>match bl st G x with
   |some l=>(Af P st G t l).map fun r=>(r.1,.v r.2)
   |none=>none
 | .fieldAddr s x f=>match bl st G x,qa P s f with
   |some (.p id off),some (o,_)=>some ([],.v (.one (.p id (off+o))))
   |some (.pi id off sz n y),some (o,_)=>some ([],.v (.one (.pi id (off+o) sz n y)))
   | some (.ep row sz i j),some (o,_)=>match bC st row with
     |some r=>if G.gY r.g then some ([(BE.le (.c 0) i).mk,(BE.lt i (.len r.lv)).mk],.v (.one (Bp row sz i j o)))else none
     | none=>match eC st row with
       |some r=>if G.gY r.g then some ([(BE.le (.c 0) i).mk,(BE.lt i (.len r.lv)).mk],.v (.one (.ep row sz i (j+o))))else none
       |none=>none
   |_,_=>none
 | .field s x f=>match jM st G x,qa P s f with
   |some (.agg cs),some (o,t)=>(pT P t cs o).map fun v=>([],.v v)
   |_,_=>none
 | .indexAddr t x i=>match bl st G x,bl st G i with
   |some l,some (.i k e)=>(KK P st G t l k e).map fun r=>(r.1,.v (.one r.2))
   |_,_=>none
 | .index t x i=>match jM st G x,bl st G i,P.underlying t with
   | some (.agg cs),some (.i _ (.c n)),some (.array len e)=>
     if 0<=n/\n<(len:Int)then(pT P e cs (n.toNat*P.cellsOf e)).map fun v=>([],.v v)else none
   | some (.agg cs),some (.i _ x),some (.array len e)=>
     if(P.underlying e).isSome && !fM P e&&decide (P.cellsOf e=1)&&decide (cs.length=len)then(C2 cs 0 1 len x).map fun l=>([(BE.le (.c 0) x).mk,(BE.lt x (.c (len:Int))).mk],.v (.one l))else none
   | some (.one (.str bs)),some (.i _ (.c n)),some .string=>
     if 0<=n then(bs[n.toNat]?).map fun b=>([],.v (.one (.i .u8 (.c (b.toNat:Int)))))else none
   |_,_,_=>none
 | .nilCheck x=>match bl st G x with
   |some (.p id off)=>some ([],.v (.one (.p id off)))
   | some (.ep row sz i j)=>match bC st row with
     |some r=>if G.gY r.g then some ([(BE.lt (.c 0) (.len r.lv)).mk],.v (.one (.ep row sz i j)))else none
     |none=>none
   |_=>none
 | .makeFunc (.func g) first captured=>match first.toList with
   | []=>(p9 st G captured.toList).map fun dg=>([],.v (.one (.fn g dg)))
   | [x]=>if captured.toList=[]then(match jM st G x with
     |some (.one l)=>l.down.map fun l=>([],.v (.one (.bf g false [l])))
     |some (.agg ls)=>(C4 ls).map fun ls=>([],.v (.one (.bf g true ls)))
     |none=>none)else none
   |_=>none
 | .slice t x low high cap=>match P.underlying t,bl st G x with
   | some (.slice e),some (.s row)=>match bC st row with
     | some r=>if G.gY r.g&&decide (P.cellsOf e=r.ks.length)&&decide (r.e=e)&&(P.info? e).isSome then(match low,high,cap with
       | some l,none,none=>match bl st G l with
         |some (.i _ lo)=>some ([(BE.le (.c 0) lo).mk,(BE.le lo (.len r.lv)).mk],.v (.one (.vw row r.ks.length lo (IE.sub (.len r.lv) lo).mk)))
         |_=>none
       | some l,some h,none=>match bl st G l,bl st G h with
         |some (.i _ lo),some (.i _ hi)=>some ([(BE.le (.c 0) lo).mk,(BE.le lo hi).mk,(BE.le hi (.len r.lv)).mk],.v (.one (.vw row r.ks.length lo (IE.sub hi lo).mk)))
         |_,_=>none
       | none,some h,some m=>match bl st G h,bl st G m with
         |some (.i _ hi),some (.i _ mx)=>some ([(BE.eq hi (.len r.lv)).mk,(BE.eq mx (.len r.lv)).mk],.v (.one (.cs row)))
         |_,_=>none
       |_,_,_=>none)else none
     |none=>none
   | some .string,some (.str bs)=>match low,high,cap with
     | some l,none,none=>match bl st G l with
       |some (.i _ (.c lo))=>if 0<=lo/\lo<=(bs.length:Int)then some ([],.v (.one (.str (bs.drop lo.toNat))))else none
       |_=>none
     | none,some h,none=>match bl st G h with
       |some (.i _ (.c hi))=>if 0<=hi/\hi<=(bs.length:Int)then some ([],.v (.one (.str (bs.take hi.toNat))))else none
       |_=>none
     |_,_,_=>none
   |_,_=>none
 |.sliceToArrayPointer t x=>match P.underlying t with
     | some (.array len e)=>if 0<len/\P.cellsOf e=1 then(match bl st G x with
       | some (.s row)=>match bC st row with
         |some r=>if G.gY r.g&&decide (r.ks.length=1)then some ([(BE.le (.c (len:Int)) (.len r.lv)).mk],.v (.one (.ep row 1 (.c 0) 0)))else none
         |none=>none
       | some (.vw row 1 lo n)=>match bC st row with
         |some r=>if G.gY r.g&&decide (r.ks.length=1)then some ([(BE.le (.c (len:Int)) n).mk,(BE.le (.c 0) lo).mk,(BE.le (.add lo n) (.len r.lv)).mk],.v (.one (.ep row 1 lo 0)))else none
         |none=>none
       |_=>none)else none
     |_=>none
 | .extract x n=>match Ie st G x with
   |some (.ED xs)=>(xs[n]?).map fun v=>([],.v v)
   |_=>none
 | .build t parts=>match nQ P t,sM P t,gp st G parts.toList with
   |some (.agg z),some place,some ps=>(Ah place z ps).map fun cs=>([],.v (.agg cs))
   |_,_,_=>none
 | .call {callee:=.builtin .len,args,argTypes}=>match args.toList,argTypes[0]?.bind P.underlying with
   | [x],some (.slice _)=>match bl st G x with
     | some (.s row)=>match bC st row with
       |some r=>if G.gY r.g then some ([],.v (.one (.i .i64 (.len r.lv))))else none
       | none=>match eC st row with
         |some r=>if G.gY r.g then some ([],.v (.one (.i .i64 (.len r.lv))))else none
         |none=>none
     |some .jH=>some ([],.v (.one (.i .i64 (.c 0))))
     | some (.vw row _ lo n)=>match bC st row with
       |some r=>if G.gY r.g then some ([(BE.le (.c 0) n).mk],.v (.one (.i .i64 n)))else none
       |none=>none
     |some (.bs _ n _)=>some ([],.v (.one (.i .i64 (.c (n:Int)))))
     | some (.kb row bs)=>match bC st row with
       |some r=>if G.gY r.g then some ([(BE.eq (.len r.lv) (.c (bs.length:Int))).mk],.v (.one (.i .i64 (.c (bs.length:Int)))))else none
       |none=>none
     |_=>none
   | [x],some .string=>match bl st G x with
     |some (.str bs)=>some ([],.v (.one (.i .i64 (.c (bs.length:Int)))))
     |_=>none
   |_,_=>none
 | .call {callee:=.builtin .max,args,..}=>match args.toList with
   | [x,y]=>match bl st G x,bl st G y with
     |some (.i k a),some (.i k' b)=>if k=k' then some ([],.v (.one (.i k (IE.max a b).mk)))else none
     |_,_=>none
   | [x,y,z]=>match bl st G x,bl st G y,bl st G z with
     |some (.i k a),some (.i k' b),some (.i Y5 c)=>if k=k'/\k=Y5 then some ([],.v (.one (.i k (IE.max (IE.max a b).mk c).mk)))else none
     |_,_,_=>none
   |_=>none
 | .call {callee:=.builtin .min,args,..}=>match args.toList with
   | [x,y]=>match bl st G x,bl st G y with
     |some (.i k a),some (.i k' b)=>if k=k' then some ([],.v (.one (.i k (IE.min a b).mk)))else none
     |_,_=>none
   | [x,y,z]=>match bl st G x,bl st G y,bl st G z with
     |some (.i k a),some (.i k' b),some (.i Y5 c)=>if k=k'/\k=Y5 then some ([],.v (.one (.i k (IE.min (IE.min a b).mk c).mk)))else none
     |_,_,_=>none
   |_=>none
 |_=>none
def St.put(st:St)(dst:Option Tmp)(s:aP):St:=
 match dst with
 |some d=>{st with tmps:=st.tmps.set d (some s) }
 |none=>st
def St.IM(st:St)(dst:Option Tmp)(s:aP):Option St:=if s.all st.has then some (st.put dst s)else none
def uP(st:St)(b:gC):St:={st with aT:=st.aT.map fun x=>if x.id=b.id then b else x}
def qp(st:St)(G:BE):CT->ah->Option DE
 |.c (.i k),.i k' e=>if k=k' then some (.i e)else none
 |.c .b,.b e=>some (.b e)
 |.c .f,.fl e=>some (.i e)
 | .s e ks,.s row=>match bC st row with
   |some r=>if G.gY r.g&&decide (r.e=e)&&decide (r.ks=ks)then some (.l r.lv)else none
   |none=>none
 |.s _ ks,.jH=>if 0<ks.length then some .nil else none
 | .n e aK,.s row=>match bC st row with
   |some _=>none
   | none=>match eC st row with
     |some r=>if G.gY r.g&&decide (r.e=e)&&decide (r.aK=aK)then some (.l r.lv)else none
     |none=>none
 |.n _ aK,.jH=>if 0<aK.length then some .nil else none
 |_,_=>none
def ck(st:St)(G:BE):List CT->List ah->Option (List DE)
 | [],[]=>some []
 | c::cs,l::ls=>match qp st G c l,ck st G cs ls with
   |some d,some ds=>some (d::ds)
   |_,_=>none
 |_,_=>none
def rD(k:IntKind):List ah->Option (List IE)
 | []=>some []
 | .i k' e::ls=>if k=k' then(match rD k ls with
   |some es=>some (e::es)
   |none=>none)else none
 |_::_=>none
def mf:CK->ah->Option (Sum IE BE)
 |.i k,.i k' e=>if k=k' then some (.inl e)else none
 |.b,.b e=>some (.inr e)
 |_,_=>none
def ei:List CK->List ah->Option (List (Sum IE BE))
 | [],[]=>some []
 | k::ks,l::ls=>match mf k l,ei ks ls with
   |some x,some xs=>some (x::xs)
   |_,_=>none
 |_,_=>none
def Au(st:St)(G:BE)(e:TypeId)(ks:List CK):ah->Option DE
 | .p id 0=>match fz st id with
   | some b=>match ks with
     | [.i k]=>if b.cells.length<=65536 then(rD k b.cells).map DE.rows else none
     |ks=>if 0<ks.length then(ei ks b.cells).map DE.sU else none
   |none=>none
 | .ep row sz (.c 0) 0=>match bC st row with
   |some r=>if G.gY r.g&&decide (r.e=e)&&decide (r.ks=ks)&&decide (sz=ks.length)then some (.l r.lv)else none
   |none=>none
 |_=>none
def oF(c:Bool×Nat):ah:=if c.1 then .ep c.2 1 (.c 0) 0 else .p c.2 0
def sV(st:St)(G:BE):List (TypeId×IntKind)->List (Bool×Nat)->Option (List DE)
 | [],[]=>some []
 | (e,k)::cs,c::dg=>match Au st G e [.i k] (oF c),sV st G cs dg with
   |some d,some ds=>some (d::ds)
   |_,_=>none
 |_,_=>none
def UF(st:St)(G:BE):VT->V1->Option (List DE)
 |.one c,.one l=>(qp st G c l).map fun d=>[d]
 |.agg cs,.agg ls=>ck st G cs ls
 |.ptr e ks,.one l=>(Au st G e ks l).map fun d=>[d]
 |.fn g cs,.one (.fn g' dg)=>if g=g' then sV st G cs dg else none
 |_,_=>none
def mi(st:St)(G:BE):List VT->List V1->Option (List DE)
 | [],[]=>some []
 | t::ts,v::vs=>match UF st G t v,mi st G ts vs with
   |some d,some ds=>some (d++ds)
   |_,_=>none
 |_,_=>none
def kL(b:gC):List gC->List gC
 | []=>[b]
 |x::xs=>if x.id<b.id then b::x::xs else x::kL b xs
def dc(r:Row):List Row->List Row
 | []=>[r]
 |x::xs=>if x.id<r.id then r::x::xs else x::dc r xs
def cR(rs l:List Row):List Row:=rs.foldr dc l
def sT(r:dG):List dG->List dG
 | []=>[r]
 |x::xs=>if x.id<r.id then r::x::xs else x::sT r xs
def pB(rs l:List dG):List dG:=rs.foldr sT l
def cG(G:BE)(id:Nat):CT->ah×List Row
 |.c (.i k)=>(.i k (.v id),[])
 |.c .b=>(.b (.v id),[])
 |.c .f=>(.fl (.v id),[])
 |.s e ks=>(.s id,[{id,e,ks,lv:=id,own:=true,g:=G}])
 |.n _ _=>(.s id,[])
def aF(G:BE):Nat->List CT->List ah×List Row
 |_,[]=>([],[])
 |id,c::cs=>let(l,r):=cG G id c;let(ls,rs):=aF G (id+1) cs;(l::ls,r++rs)
def gu(G:BE):Nat->List (TypeId×IntKind)->List (Bool×Nat)×List Row
 |_,[]=>([],[])
 |id,(e,k)::cs=>((true,id)::(gu G (id+1) cs).1,{id,e,ks:=[.i k],lv:=id,own:=true,g:=G}::(gu G (id+1) cs).2)
def iM(G:BE)(id:Nat):VT->V1×List Row
 |.one c=>let(l,r):=cG G id c;(.one l,r)
 |.agg cs=>let(ls,r):=aF G id cs;(.agg ls,r)
 |.ptr e ks=>(.one (.ep id ks.length (.c 0) 0),[{id,e,ks,lv:=id,own:=true,g:=G}])
 |.fn g cs=>(.one (.fn g (gu G id cs).1),(gu G id cs).2)
def bX(G:BE):Nat->List VT->List V1×List Row
 |_,[]=>([],[])
 |id,t::ts=>let(v,r):=iM G id t;let(vs,rs):=bX G (id+t.bD.length) ts;(v::vs,r++rs)
def dI(own:Bool)(G:BE):Nat->List CT->List dG
 |_,[]=>[]
 |id,.n e aK::cs=>⟨id,e,aK,id,G,own⟩::dI own G (id+1) cs
 |id,_::cs=>dI own G (id+1) cs
def nY:List V1->SV
 | [x]=>.v x
 |xs=>.ED xs
def oH(x:IE)(l:ah)(sz:Nat)(cells:List ah)(off:Nat):Nat->Nat->Option (List ah)
 |_,0=>some cells
 | j,n+1=>match cells[off]?,l with
   |some (.i k a),.i k' b=>if k=k' then oH x l sz (cells.set off (.i k (.kq x j b a))) (off+sz) (j+1) n else none
   |some (.b p),.b q=>oH x l sz (cells.set off (.b (.or (.and (.eq x (.c (j:Int))) q) (.and (.not (.eq x (.c (j:Int)))) p)))) (off+sz) (j+1) n
   |_,_=>none
def tH(x:IE)(sz n:Nat)(cells:List ah)(off:Nat):List ah->Option (List ah)
 | []=>some cells
 | l::ls=>match oH x l sz cells off 0 n with
   |some cs=>tH x sz n cs (off+1) ls
   |none=>none
def jk:aP:=⟨.c false,.v (.one (.b (.c false)))⟩
def nS(st:St)(key:Nat)(e:TypeId)(ls:List ah)(dst:Option Tmp):Option (List Ev×St):=
 if st.free key 1&&bh st.has ls then
   some ([],{st.bn key 1 with aT:=kL ⟨key,e,ls⟩ st.aT}.put dst ⟨.c true,.v (.one (.p key 0))⟩)
 else none
def zy(st:St)(key:Nat)(e:TypeId)(aK:List NK)(cY:List Ev)(op:cZ)(rows:List Row)(aY:List dG)(dst:Option Tmp):Option (List Ev×St):=
 if st.free key 1&&decide (0<aK.length)then
   some (cY++[.ch key op],{st.bn key 1 with rows,aY:=sT ⟨key,e,aK,key,.c true,true⟩ aY}.put dst ⟨.c true,.v (.one (.s key))⟩)
 else none
def setCells(st:St)(b:gC)(cs:List ah)(dst:Option Tmp):Option (List Ev×St):=
 if bh st.has cs then some ([],(uP st {b with cells:=cs}).put dst jk)else none
def newRow(st:St)(G:BE)(key:Nat)(e:TypeId)(ks:List CK)(cY:List Ev)(op:cZ)(rows:List Row)(dst:Option Tmp):Option (List Ev×St):=
 if st.free key 1&&G.all st.has then
   some (cY++[.ch key op],{st.bn key 1 with rows:=dc ⟨key,e,ks,key,true,G⟩ rows}.put dst ⟨G,.v (.one (.s key))⟩)
 else none
def qk(st:St)(l:ah)(ls:List ah)(key:Nat)(dst:Option Tmp):Option (List Ev×St):=
 match l with
 | .p id off=>match fz st id with
   |some b=>if off+ls.length<=b.cells.length then setCells st b (gJ b.cells off ls) dst else none
   |none=>none
 | .pi id off sz n x=>match fz st id with
   | some b=>match tH x sz n b.cells off ls with
     | some cs=>if 0<n/\ls.length<=sz/\0<ls.length then(match setCells st b cs dst with
       |some (cY,aZ)=>some (.aG (BE.le (.c 0) x).mk :: .aG (BE.lt x (.c (n:Int))).mk::cY,aZ)
       |none=>none)else none
     |none=>none
   |none=>none
 | .ep row sz x j=>match bC st row,ls with
   | some r,[l]=>match r.ks[j]? with
     | some kj=>match mf kj l with
       |some y=>if r.own&&decide (r.g = .c true)&&decide (r.ks.length=sz)&&st.free key 1 then
       some ([.aG (BE.le (.c 0) x).mk,.aG (BE.lt x (.len r.lv)).mk,.ch key (.set r.lv x j y)],
         {st.bn key 1 with rows:=dc {r with lv:=key} (st.rows.filter fun z=>decide (z.id≠row)) }.put dst jk)else none
       |none=>none
     |none=>none
   | some r,ls=>match ei r.ks ls with
     |some es=>if r.own&&decide (r.g = .c true)&&decide (r.ks.length=sz)&&decide (j=0)&&decide (1<sz)&&st.free key 1 then
         some ([.aG (BE.le (.c 0) x).mk,.aG (BE.lt x (.len r.lv)).mk,.ch key (.xm r.lv x es)],
           {st.bn key 1 with rows:=dc {r with lv:=key} (st.rows.filter fun z=>decide (z.id≠row)) }.put dst jk)else none
     | none=>match ei ((r.ks.drop j).take ls.length) ls with
       |some es=>if r.own&&decide (r.g = .c true)&&decide (r.ks.length=sz)&&decide (j+ls.length<=sz)&&decide (0<ls.length)&&st.free key 1 then
           some ([.aG (BE.le (.c 0) x).mk,.aG (BE.lt x (.len r.lv)).mk,.ch key (.zu r.lv x j es)],
             {st.bn key 1 with rows:=dc {r with lv:=key} (st.rows.filter fun z=>decide (z.id≠row)) }.put dst jk)else none
       |none=>none
   |_,_=>none
 |_=>none
def mR(ks:List CK):Nat->Nat->List (Nat×V1)->Option (List (List (Sum IE BE)))
 |0,_,[]=>some []
 |n+1,i,(j,v)::ps=>if i=j then
     (match ei ks v.leaves,mR ks n (i+1) ps with
     |some r,some rs=>some (r::rs)
     |_,_=>none)else none
 |_,_,_=>none
def jX(P:Program)(e:TypeId):Option Nat:=
 match P.info? e with
 | some i=>match i.zero with
   |some z=>if decide (0<i.bytes)&&decide (0<i.size)&&decide (z.cells.size=i.size)then some (140737488355328/i.bytes)else none
   |none=>none
 |none=>none
def GN(g:TypeId->Option (List NK)):List Field->Option (List NK)
 | []=>some []
 | f::fs=>match g f.type,GN g fs with
   |some m,some r=>some (m++r)
   |_,_=>none
def K4(P:Program):Nat->TypeId->Option (List NK)
 |0,_=>none
 | n+1,t=>match P.underlying t with
   |some (.int k)=>some [.c (.i k)]
   |some .bool=>some [.c .b]
   | some (.slice e)=>match flat P 16 e with
     |some [k]=>some [.s e k]
     |_=>none
   |some (.struct fs)=>GN (K4 P n) fs.toList
   |some (.array len e)=>(K4 P n e).map fun m=>(List.replicate len m).flatten
   |_=>none
def mh(st:St):List NK->List ah->Option (List bW×List Nat)
 | [],[]=>some ([],[])
 | .c k::aK,l::ls=>match mf k l,mh st aK ls with
   |some x,some (xs,gs)=>some (.c x::xs,gs)
   |_,_=>none
 | .s e k::aK,.s r::ls=>match bC st r,mh st aK ls with
   |some x,some (xs,gs)=>if x.own&&decide (x.g = .c true)&&decide (x.e=e)&&decide (x.ks=[k])then some (.s x.lv::xs,r::gs)else none
   |_,_=>none
 | .s _ _::aK,.jH::ls=>match mh st aK ls with
   |some (xs,gs)=>some (.nil::xs,gs)
   |none=>none
 |_,_=>none
def ky(st:St)(aK:List NK):Nat->Nat->List (Nat×V1)->Option (List (List bW)×List Nat)
 |0,_,[]=>some ([],[])
 |n+1,i,(j,v)::ps=>if i=j then
     (match mh st aK v.leaves,ky st aK n (i+1) ps with
     |some (r,g),some (rs,gs)=>some (r::rs,g++gs)
     |_,_=>none)else none
 |_,_,_=>none
def uY:List Nat->Bool
 | []=>true
 |x::xs=>!xs.contains x&&uY xs
def jn(sz:Nat):Nat->Nat->List (Nat×V1)->Option (List ah)
 |0,_,[]=>some []
 |n+1,i,(j,v)::ps=>if i=j/\v.leaves.length=sz then(jn sz n (i+1) ps).map fun ls=>v.leaves++ls else none
 |_,_,_=>none
def Zp(P:Program)(bsl:List TypeId)(st:St)(G:BE)(key:Nat)(dst:Option Tmp)(t:TypeId)(n:Nat)(parts:Array (Nat×Operand)):Option (List Ev×St):=
 match P.underlying t,gp st G parts.toList with
 |some (.slice e),some ps=>if bsl.contains e then(if decide (G = .c true)&&((P.info? e).bind (·.zero)).isSome&&decide (0<P.cellsOf e)&&decide (n*P.cellsOf e<=16777216)then
     (match jn (P.cellsOf e) n 0 ps with
     |some ls=>if st.free key 1&&bh st.has ls then some ([],{st.bn key 1 with aT:=kL ⟨key,e,ls⟩ st.aT}.put dst ⟨.c true,.v (.one (.bs key n (P.cellsOf e)))⟩)else none
     |none=>none)else none)else match flat P 16 e with
   |some ks=>if decide (0<ks.length)&&((P.info? e).bind (·.zero)).isSome&&decide (n*ks.length<=16777216)&&decide (P.cellsOf e=ks.length)then
       (match mR ks n 0 ps with
       |some rows=>newRow st G key e ks [] (.lit rows) st.rows dst
       |none=>none)else none
   | none=>match K4 P 16 e with
     |some aK=>if decide (G = .c true)&&((P.info? e).bind (·.zero)).isSome&&decide (n*aK.length<=16777216)&&decide (P.cellsOf e=aK.length)then
         (match ky st aK n 0 ps with
         |some (rows,gone)=>if uY gone then zy st key e aK [] (.zA rows) (st.rows.filter fun r=>!gone.contains r.id) st.aY dst else none
         |none=>none)else none
     |none=>none
 |_,_=>none
def pt(G:BE):List BE->List Ev
 | []=>[]
 | n::ns=>match BE.under G n with
   |.c true=>pt G ns
   |m=>.aG m::pt G ns
def fh(lv:Nat)(i:IE)(key:Nat):Nat->List NK->List ah
 |_,[]=>[]
 |j,.c k::aK=>oD lv i j k::fh lv i key (j+1) aK
 |j,.s _ _::aK=>.s (key+j)::fh lv i key (j+1) aK
def Dd(lv:Nat)(i:IE)(key:Nat)(all:List NK):Nat->List NK->List Ev
 |_,[]=>[]
 |j,.c _::aK=>Dd lv i key all (j+1) aK
 |j,.s _ _::aK=>.ch (key+j) (.sub lv i all j)::Dd lv i key all (j+1) aK
def jm(G:BE)(key:Nat):Nat->List NK->List Row
 |_,[]=>[]
 |j,.c _::aK=>jm G key (j+1) aK
 |j,.s e k::aK=>⟨key+j,e,[k],key+j,false,G⟩::jm G key (j+1) aK
def Tk(P:Program)(st:St)(G:BE)(key:Nat)(dst:Option Tmp)(t:TypeId)(n:dG)(i:IE)(j:Nat):Option (List Ev×St):=
 if(P.underlying t).isSome&&decide (0<n.aK.length)&&G.gY n.g&&G.all st.has&&st.free key n.aK.length&&i.all st.has&&st.has n.lv then
   (if fM P t then(if j=0/\P.cellsOf t=n.aK.length then
       some (pt G [(BE.le (.c 0) i).mk,(BE.lt i (.len n.lv)).mk]++Dd n.lv i key n.aK 0 n.aK,
         {st.bn key n.aK.length with rows:=cR (jm G key 0 n.aK) st.rows}.put dst ⟨G,.v (.agg (fh n.lv i key 0 n.aK))⟩)else none)
   else(match(fh n.lv i key 0 n.aK)[j]? with
     |some l=>if 0<P.cellsOf t then some (pt G [(BE.le (.c 0) i).mk,(BE.lt i (.len n.lv)).mk]++Dd n.lv i key n.aK 0 n.aK,
         {st.bn key n.aK.length with rows:=cR (jm G key 0 n.aK) st.rows}.put dst ⟨G,.v (.one l)⟩)else none
     |none=>none))
 else none
def GO(P:Program)(st:St)(G:BE)(key:Nat)(dst:Option Tmp)(t:TypeId)(x:Operand):Option (List Ev×St):=
 match bl st G x with
 | some (.ep row sz i j)=>match bC st row with
   |some _=>none
   | none=>match eC st row with
     |some n=>if sz=n.aK.length then Tk P st G key dst t n i j else none
     |none=>none
 |_=>none
def zeroOf:CK->ah
 |.i k=>.i k (.c 0)
 |.b=>.b (.c false)
 |.f=>.fl (.c 0)
def K3(P:Program)(st:St)(key:Nat)(dst:Option Tmp)(op:Op):Option (List Ev×St):=
 match op with
 | .alloc e=>match nQ P e with
   |some z=>nS st key e z.leaves dst
   |none=>none
 | .box e x=>match jM st (.c true) x with
   |some v=>nS st key e v.leaves dst
   |none=>none
 | .store t a x=>match bl st (.c true) a,jM st (.c true) x with
   |some l,some v=>if v.leaves.length=P.cellsOf t/\0<P.cellsOf t then qk st l v.leaves key dst else none
   |_,_=>none
 | .makeSlice t n c=>match P.underlying t,bl st (.c true) n,bl st (.c true) c with
   | some (.slice e),some (.i _ x),some (.i _ y)=>match jX P e,flat P 16 e,nQ P e with
     |some room,some ks,some z=>if decide (0<ks.length)&&decide (P.cellsOf e=ks.length)&&decide (z.leaves=ks.map zeroOf)then
         (if x=y then newRow st (.c true) key e ks [.aG (BE.le (.c 0) x).mk,.aG (BE.le x (.c (room:Int))).mk] (.rep x (List.replicate ks.length 0)) st.rows dst
         else newRow st (.c true) key e ks [.aG (BE.le (.c 0) x).mk,.aG (BE.le x y).mk,.aG (BE.le y (.c (room:Int))).mk] (.rep x (List.replicate ks.length 0)) st.rows dst)else none
     |_,_,_=>none
   |_,_,_=>none
 | .slice t x none (some h) none=>match P.underlying t,bl st (.c true) x,bl st (.c true) h with
   | some (.slice e),some (.s a),some (.i _ n)=>match bC st a with
     |some ra=>if ra.own&&decide (ra.g = .c true)&&decide (ra.e=e)&&decide (P.cellsOf e=ra.ks.length)then
         newRow st (.c true) key e ra.ks [.aG (BE.le (.c 0) n).mk,.aG (BE.le n (.len ra.lv)).mk] (.take ra.lv n) (st.rows.filter fun r=>decide (r.id≠a)) dst else none
     | none=>match eC st a with
       |some ra=>if ra.own&&decide (ra.e=e)&&decide (P.cellsOf e=ra.aK.length)then
           zy st key e ra.aK [.aG (BE.le (.c 0) n).mk,.aG (BE.le n (.len ra.lv)).mk] (.take ra.lv n) st.rows (st.aY.filter fun r=>decide (r.id≠a)) dst else none
       |none=>none
   |_,_,_=>none
 | .call {callee:=.builtin .append,args,argTypes}=>match args.toList,argTypes.toList with
   | [x,y],[t,t']=>if t=t' then(match P.underlying t with
     | some (.slice e)=>match jX P e,bl st (.c true) x,bl st (.c true) y with
       | some room,some .jH,some (.s b)=>match bC st b with
         |some rb=>if decide (rb.g = .c true)&&decide (rb.e=e)&&decide (P.cellsOf e=rb.ks.length)then
             newRow st (.c true) key e rb.ks [.aG (BE.le (.len rb.lv) (.c (room:Int))).mk] (.cp rb.lv) st.rows dst else none
         | none=>match eC st b with
           |some rb=>if rb.own&&decide (rb.e=e)&&decide (P.cellsOf e=rb.aK.length)then
               zy st key e rb.aK [.aG (BE.le (.len rb.lv) (.c (room:Int))).mk] (.cp rb.lv) st.rows st.aY dst else none
           |none=>none
       | some room,some (.cs a),some (.s b)=>match bC st a,bC st b with
         |some ra,some rb=>if decide (ra.g = .c true)&&decide (rb.g = .c true)&&decide (ra.e=e)&&decide (rb.e=e)&&decide (ra.ks=rb.ks)&&decide (P.cellsOf e=ra.ks.length)then
             newRow st (.c true) key e ra.ks [.aG (BE.lt (.c 0) (.len rb.lv)).mk,.aG (BE.le (IE.add (.len ra.lv) (.len rb.lv)).mk (.c (room:Int))).mk] (.app ra.lv rb.lv) st.rows dst else none
         |_,_=>none
       | some room,some (.s a),some (.s b)=>match bC st a,bC st b with
         |some ra,some rb=>if ra.own&&decide (ra.g = .c true)&&decide (rb.g = .c true)&&decide (ra.e=e)&&decide (rb.e=e)&&decide (ra.ks=rb.ks)&&decide (a≠b)&&decide (P.cellsOf e=ra.ks.length)then
             newRow st (.c true) key e ra.ks [.aG (BE.le (IE.add (.len ra.lv) (.len rb.lv)).mk (.c (room:Int))).mk] (.app ra.lv rb.lv) (st.rows.filter fun r=>decide (r.id≠a)) dst else none
         | none,none=>match eC st a,eC st b with
           |some ra,some rb=>if ra.own&&rb.own&&decide (ra.e=e)&&decide (rb.e=e)&&decide (ra.aK=rb.aK)&&decide (a≠b)&&decide (P.cellsOf e=ra.aK.length)then
               zy st key e ra.aK [.aG (BE.le (IE.add (.len ra.lv) (.len rb.lv)).mk (.c (room:Int))).mk] (.app ra.lv rb.lv) st.rows (st.aY.filter fun r=>decide (r.id≠a)) dst else none
           |_,_=>none
         |_,_=>none
       |_,_,_=>none
     |_=>none)else none
   |_,_=>none
 | .call {callee:=.builtin .copy,args,argTypes}=>match args.toList,argTypes.toList with
   | [x,y],[t,t']=>if t=t' then(match P.underlying t,bl st (.c true) x,bl st (.c true) y with
     | some (.slice e),some (.s a),some (.s b)=>match bC st a,bC st b with
       |some ra,some rb=>if ra.own&&decide (ra.g = .c true)&&decide (rb.g = .c true)&&decide (ra.ks=rb.ks)&&decide (a≠b)&&decide (P.cellsOf e=ra.ks.length)&&(P.info? e).isSome&&st.free key 1 then
           some ([.ch key (.Qh ra.lv rb.lv)],{st.bn key 1 with rows:=dc {ra with lv:=key} (st.rows.filter fun r=>decide (r.id≠a)) }.put dst ⟨.c true,.v (.one (.i .i64 (.min (.len ra.lv) (.len rb.lv))))⟩)else none
       |_,_=>none
     |_,_,_=>none)else none
   |_,_=>none
 | .call {callee:=.builtin .clear,args,argTypes}=>match args.toList,argTypes.toList with
   | [x],[t]=>match P.underlying t,bl st (.c true) x with
     | some (.slice e),some (.s a)=>match bC st a,nQ P e with
       |some ra,some z=>if ra.own&&decide (ra.g = .c true)&&decide (P.cellsOf e=ra.ks.length)&&(P.info? e).isSome&&decide (z.leaves=ra.ks.map zeroOf)&&st.free key 1 then
           some ([.ch key (.rep (.len ra.lv) (List.replicate ra.ks.length 0))],{st.bn key 1 with rows:=dc {ra with lv:=key} (st.rows.filter fun r=>decide (r.id≠a)) }.put dst ⟨.c true,.ED []⟩)else none
       |_,_=>none
     |_,_=>none
   |_,_=>none
 | .convert src IC x=>match P.underlying src,P.underlying IC,bl st (.c true) x with
   | some .string,some (.slice e),some (.str bs)=>match P.underlying e with
     |some (.int .u8)=>if(P.info? e).isSome&&decide (P.cellsOf e=1)&&decide (bs.length<=4096)&&st.free key 1 then some ([.ch key (.lit (bs.map fun b=>[Sum.inl (IE.c (b.toNat:Int))]))],{st.bn key 1 with rows:=dc ⟨key,e,[.i .u8],key,false,.c true⟩ st.rows}.put dst ⟨.c true,.v (.one (.kb key bs))⟩)else none
     |_=>none
   |_,_,_=>none
 |_=>none
def CT.uA:CT->Bool
 |.n _ _=>true
 |_=>false
def CT.Yi:CT->Bool
 |.s _ _=>true
 |_=>false
def oO(cs:List CT):Bool:=!cs.any CT.uA||(!cs.any CT.Yi&&decide (cs.countP CT.uA<=1))
def width(vs:List VT):Nat:=(bD vs).length
def bt(vs:List V1):List ah:=vs.flatMap V1.leaves
def cC(ls:List ah):List Nat:=ls.filterMap fun| .s r=>some r|_=>none
def gE:List VT->Bool
 | []=>true
 |.ptr _ _::_=>false
 |.fn _ _::_=>false
 |.one (.n _ _)::_=>false
 |.one _::ts=>gE ts
 |.agg cs::ts=>cs.all (fun| .n _ _=>false|_=>true)&&gE ts
def eI:List VT->Bool
 | []=>true
 |.ptr _ _::_=>false
 |.fn _ _::_=>false
 |_::ts=>eI ts
def UG(st:St)(key:Nat)(dst:Option Tmp)(f:FuncId)(sg:bN)(vs:List V1):Option (List Ev×St):=
 match mi st (.c true) sg.args vs with
 | some ds=>
   let gone:=cC ((bt vs).take sg.cons)
   if st.free key (width sg.res)&&gE sg.args&&gE sg.res&&uY gone&&gone.all (fun r=>match bC st r with|some x=>x.own&&decide (x.g = .c true)|none=>false)then
     some ([.call f (.c true) ds sg.res key],{st.bn key (width sg.res)with rows:=cR (bX (.c true) key sg.res).2 (st.rows.filter fun r=>!gone.contains r.id) }.put dst ⟨.c true,nY (bX (.c true) key sg.res).1⟩)else none
 |none=>none
def IN(aJ:jo)(st:St)(G:BE)(key:Nat)(dst:Option Tmp)(f:FuncId)(vs:List V1):Option (List Ev×St):=
 match aJ.sig f with
 | some sg=>if sg.cons≠0 then(if G = .c true then UG st key dst f sg vs else none)else match mi st G sg.args vs with
   |some ds=>if st.free key (width sg.res)&&oO (bD sg.res)&&G.all st.has then
       some ([.call f G ds sg.res key],{st.bn key (width sg.res)with rows:=cR (bX G key sg.res).2 st.rows,aY:=pB (dI (decide (G=BE.c true)) G key (bD sg.res)) st.aY}.put dst ⟨G,nY (bX G key sg.res).1⟩)else none
   |none=>none
 |none=>none
def cop(aJ:jo)(st:St)(G:BE)(key:Nat)(dst:Option Tmp)(f:FuncId)(args:List Operand):Option (List Ev×St):=
 match jY st G args with
 |some vs=>IN aJ st G key dst f vs
 |none=>none
def QQ(agg:Bool)(ls:List c8):V1:=if agg then .agg (ls.map c8.up)else .one ((ls.map c8.up).headD .jH)
def UH(aJ:jo)(st:St)(G:BE)(key:Nat)(dst:Option Tmp)(x:Operand)(args:List Operand):Option (List Ev×St):=
 match bl st G x,jY st G args with
 |some (.fn g dg),some vs=>IN aJ st G key dst g (vs++dg.map fun c=>.one (oF c))
 |some (.f g),some vs=>IN aJ st G key dst g vs
 |some (.bf g agg ls),some vs=>if agg||decide (ls.length=1)then IN aJ st G key dst g (QQ agg ls::vs)else none
 |_,_=>none
def guardOf(ops:Array Oper)(st:St)(o:Oper):Option BE:=
 match o.guard with
 |none=>some (.c true)
 | some (j,want)=>match(ops[j]?).bind (·.dst)with
   | some t=>match st.tmps[t]? with
     |some (some ⟨g,.v (.one (.b p))⟩)=>some (BE.and g (if want then p else(BE.not p).mk)).mk
     |_=>none
   |none=>none
def St.forget(st:St)(dst:Option Tmp):St:=
 match dst with
 |some d=>{st with tmps:=st.tmps.set d none}
 |none=>st
def Dl(P:Program)(aJ:jo)(st:St)(G:BE)(dst:Option Tmp)(t:TypeId)(g:Nat):Option (List Ev×St):=
 match aJ.vM.find? (fun p=>p.1==g)with
 | some p=>match pT P t (p.2.map fun n=>ah.i .i64 (.c n)) 0 with
   |some v=>(st.IM dst ⟨G,.v v⟩).map fun aZ=>([],aZ)
   |none=>none
 |none=>none
def qt(P:Program)(aJ:jo)(ops:Array Oper)(st:St)(key:Nat)(o:Oper):Option (List Ev×St):=
 match guardOf ops st o with
 |none=>none
 |some (.c false)=>some ([],st.put o.dst jk)
 | some G=>match Ut P aJ.fF st G o.op with
   | some (ns,sv)=>match st.IM o.dst ⟨G,sv⟩with
     |some aZ=>some (pt G ns,aZ)
     |none=>none
   | none=>match o.op with
     |.assign (.const _)=>some ([],st.forget o.dst)
     |.call {callee:=.value (.func f),args,..}=>cop aJ st G key o.dst f args.toList
     |.call {callee:=.value (.tmp t),args,..}=>UH aJ st G key o.dst (.tmp t) args.toList
     |.buildSlice t n parts=>Zp P aJ.bsl st G key o.dst t n parts
     |.load t (.global g)=>Dl P aJ st G o.dst t g
     |.load t x=>GO P st G key o.dst t x
     |op=>if G = .c true then K3 P st key o.dst op else none
def fZ:Nat:=512
def GQ:Nat:=16
inductive Spec where
 |inl (g:FuncId) (vs:List V1)
 |val (x:V1)
 |aG (ok:BE) (e:IE)
 |IP (g:FuncId) (vs:List V1)
def idxOf(bs:List UInt8)(b:Int):Int:=match(List.range bs.length).find? fun i=>decide (((bs[i]?).map fun x=>(x.toNat:Int))=some b)with
 |some i=>(i:Int)
 |none=>-1
def tL(dg:List (Bool×Nat)):List V1:=dg.map fun c=>.one (oF c)
def uZ(aJ:jo)(st:St)(G:BE)(op:Op):Option Spec:=
 match op with
 | .call {callee:=.value (.func f),args,..}=>match jY st G args.toList with
   | some vs=>if dm st.has vs then
     (if aJ.aG=some f then(match vs with
       | [.one (.b ok),.one (.i .i64 e)]=>some (.aG ok e)
       |_=>none)
     else if aJ.uX=some f then(match vs with
       | [.one (.fn g dg)]=>some (.IP g (tL dg))
       |_=>none)
     else if aJ.wG=some f then(match vs with
       | [.one (.str bs),.one (.i .u8 (.c b))]=>if 0<=b/\b<256 then some (.val (.one (.i .i64 (.c (idxOf bs b)))))else none
       |_=>none)
     else if aJ.inl.contains f then some (.inl f vs)else none)else none
   |none=>none
 | .call {callee:=.value (.tmp t),args,..}=>match bl st G (.tmp t),jY st G args.toList with
   |some (.fn g dg),some vs=>if aJ.inl.contains g&&dm st.has (vs++tL dg)then some (.inl g (vs++tL dg))else none
   |some (.f g),some vs=>if aJ.inl.contains g&&dm st.has vs then some (.inl g vs)else none
   |some (.bf g agg ls),some vs=>if aJ.inl.contains g&&dm st.has (QQ agg ls::vs)&&(agg||decide (ls.length=1))then some (.inl g (QQ agg ls::vs))else none
   |_,_=>none
 |_=>none
def aP.know(p:BE)(v:Bool)(s:aP):aP:=
 match s.sv with
 |.v (.one (.b x))=>if x=p then {s with sv:=.v (.one (.b (.c v))) }else if x=(BE.not p).mk then {s with sv:=.v (.one (.b (.c !v))) }else s
 |_=>s
def St.know(st:St)(p:BE)(v:Bool):St:={st with tmps:=st.tmps.map fun s=>s.map (aP.know p v) }
def mj(h:Option St)(st:St):Bool:=
 match h with
 |none=>true
 |some hs=>hs.aT.all (fun b=>decide (fz st b.id=some b))&&hs.rows.all (fun r=>decide (bC st r.id=some r))&&hs.aY.all (fun r=>st.aY.contains r)
def Tl(h:Option St)(st:St)(e:IE):aw:=if mj h st&&e.all st.has then .fail e else .stuck ("given up" ++ (match h with
 |some hs=>String.join (hs.aT.filterMap fun b=>if fz st b.id=some b then none else some (" blk " ++ toString b.id))++String.join (hs.rows.filterMap fun b=>if bC st b.id=some b then none else some (" row " ++ toString b.id))
 |none=> ""))
def sW(st aZ:St)(dst:Option Tmp)(sv:SV):St:={aZ with tmps:=(st.put dst ⟨.c true,sv⟩).tmps}
def oP(fn:Func)(vs:List V1)(st:St):St:={st with tmps:=vs.map (fun v=>some ⟨.c true,.v v⟩)++List.replicate (fn.ntmps-vs.length) none}
def QR(st:St):St:={st with next:=st.next+fZ,nz:=[] }
def Zq(P:Program)(st:St):ResultVar->Option V1
 |.tmp t=>jM st (.c true) (.tmp t)
 | .cell a t=>match bl st (.c true) (.tmp a)with
   |some (.p id off)=>(Af P st (.c true) t (.p id off)).map fun r=>r.2
   |_=>none
def qu(P:Program)(st:St):List ResultVar->Option (List V1)
 | []=>some []
 | r::rs=>match Zq P st r,qu P st rs with
   |some v,some vs=>some (v::vs)
   |_,_=>none
def tM(P:Program)(cc:St)(W:List Nat)(st:St)(G:BE)(op:Op):Bool:=
 match op with
 | .load _ x=>match bl st G x with
   |some (.p id _)=>!W.contains id&&cc.aT.any (fun b=>b.id==id)
   |some (.pi id _ _ _ _)=>!W.contains id&&cc.aT.any (fun b=>b.id==id)
   |some (.ep row _ _ _)=>!W.contains row&&decide (bC st row=bC cc row)
   |_=>false
 |_=>true
abbrev UI:=St->Nat->Oper->Option (List Ev×St)
def written(zf:UI)(sd base:Nat):Nat->List Oper->St->Option (List (Nat×Nat))
 |_,[],_=>some []
 | i,o::rest,st=>match zf st (base+i*sd) o with
   | some (_,aZ)=>match written zf sd base (i+1) rest aZ with
     | some W=>match o.op with
       | .store _ a _=>match bl st (.c true) a with
         |some (.p id _)=>some ((i,id)::W)
         |some (.pi id _ _ _ _)=>some ((i,id)::W)
         |some (.ep row _ _ _)=>some ((i,row)::W)
         |_=>none
       | .call {callee:=.builtin .append,args,..}=>match args.toList with
         | x::_=>match bl st (.c true) x with
           |some (.s row)=>some ((i,row)::W)
           |some .jH=>some W
           |some (.cs _)=>some W
           |_=>none
         | []=>none
       | .slice _ x _ _ _=>match bl st (.c true) x with
         |some (.s row)=>some ((i,row)::W)
         |some _=>some W
         |_=>none
       |.call {callee:=.builtin .copy,..}=>none
       |.call {callee:=.builtin .clear,..}=>none
       |_=>some W
     |none=>none
   |none=>none
def tN(W:List Nat)(st:St):ah->Bool
 |.p id _=>W.contains id&&(fz st id).isSome
 |.pi id _ _ _ _=>W.contains id&&(fz st id).isSome
 | .ep row _ _ _=>W.contains row&&(match bC st row with
   |some r=>r.own&&decide (r.g = .c true)
   |none=>false)
 | .s row=>W.contains row&&(match bC st row with
   |some r=>r.own&&decide (r.g = .c true)
   | none=>match eC st row with
     |some r=>r.own
     |none=>false)
 |_=>true
def xy(W:List Nat)(st:St)(op:Op):Bool:=
 match op with
 | .store _ a _=>match bl st (.c true) a with
   |some l=>tN W st l
   |none=>true
 | .call {callee:=.builtin .append,args,..}=>match args.toList with
   | x::_=>match bl st (.c true) x with
     |some l=>tN W st l
     |none=>true
   | []=>true
 |.call {callee:=.builtin .copy,..}=>false
 |.call {callee:=.builtin .clear,..}=>false
 |_=>true
def keeps(cc:St)(W:List Nat)(st:St):Bool:=
 cc.aT.all (fun b=>W.contains b.id||decide (fz st b.id=some b))&&cc.rows.all (fun r=>W.contains r.id||decide (bC st r.id=some r))
def ib(p:Nat->Bool):Sum IE BE->Bool
 |.inl e=>e.all p
 |.inr b=>b.all p
def bW.all(p:Nat->Bool):bW->Bool
 |.c x=>ib p x
 |.s k=>p k
 |.nil=>true
def cZ.all(p:Nat->Bool):cZ->Bool
 |.lit rows=>rows.all fun r=>r.all (ib p)
 |.app a b=>p a&&p b
 |.set a i _ x=>p a&&(i.all p&&ib p x)
 |.xm a i xs=>p a&&(i.all p&&xs.all (ib p))
 |.zu a i _ xs=>p a&&(i.all p&&xs.all (ib p))
 |.take a n=>p a&&n.all p
 |.rep n _=>n.all p
 |.cp a=>p a
 |.sub a i _ _=>p a&&i.all p
 |.Qh a b=>p a&&p b
 |.zA rows=>rows.all fun r=>r.all (bW.all p)
def DE.all(p:Nat->Bool):DE->Bool
 |.i e=>e.all p
 |.b e=>e.all p
 |.l k=>p k
 |.nil=>true
 |.rows es=>es.all (IE.all p)
 |.sU xs=>xs.all (ib p)
def eR(a b:Nat):Nat:=(a*1000003+b*8191+12345)%4294967291
def IE.key:IE->Nat
 |.v k=>eR 1 k
 |.c n=>eR 2 (if n<0 then 2*n.natAbs+1 else 2*n.natAbs)
 |.add a b=>eR 3 (eR a.key b.key)
 |.sub a b=>eR 4 (eR a.key b.key)
 |.mul a b=>eR 5 (eR a.key b.key)
 |.tdiv a b=>eR 6 (eR a.key b.key)
 |.tmod a b=>eR 7 (eR a.key b.key)
 |.ediv a n=>eR 8 (eR a.key n)
 |.emod a n=>eR 9 (eR a.key n)
 |.shl a b=>eR 10 (eR a.key b.key)
 |.shr a b=>eR 11 (eR a.key b.key)
 |.wrap _ a=>eR 12 a.key
 |.max a b=>eR 13 (eR a.key b.key)
 |.min a b=>eR 14 (eR a.key b.key)
 |.bits _ _ a b=>eR 15 (eR a.key b.key)
 |.len k=>eR 16 k
 |.get k i j=>eR 17 (eR (eR k j) i.key)
 |.kq i n a b=>eR 18 (eR (eR i.key n) (eR a.key b.key))
def BE.key:BE->Nat
 |.v k=>eR 21 k
 |.c x=>if x then 22 else 23
 |.lt a b=>eR 24 (eR a.key b.key)
 |.le a b=>eR 25 (eR a.key b.key)
 |.eq a b=>eR 26 (eR a.key b.key)
 |.not a=>eR 27 a.key
 |.and a b=>eR 28 (eR a.key b.key)
 |.or a b=>eR 29 (eR a.key b.key)
 |.iff a b=>eR 30 (eR a.key b.key)
 |.si a=>eR 31 a.key
def outside(base n:Nat):Nat->Bool:=fun k=>decide (k<base)||decide (base+n<=k)
def other(id:Nat):Nat->Bool:=fun k=>decide (k≠id)
def indep(sig:FuncId->Option bN)(e e2:Ev):Bool:=
 match e2 with
 | .ch id op=>(match e with
   |.call _ g args res base=>op.all (outside base (bD res).length)&&(outside base (bD res).length id&&(g.all (other id)&&args.all (DE.all (other id))))
   |.aG p=>p.all (other id)
   |.ch tA Qj=>decide (id≠tA)&&(op.all (other tA)&&Qj.all (other id))
   |.dd p e=>p.all (other id)&&e.all (other id))
 | .aG q=>(match e with
   |.aG _=>true
   |.call _ _ _ res base=>q.all (outside base (bD res).length)
   |.dd _ _=>true
   |.ch id _=>q.all (other id))
 | .call f' g' xA pK gM=>(match e with
   |.call f g args res base=>(decide (gM+(bD pK).length<=base)||decide (base+(bD res).length<=gM))&&(decide ((sig f').map (·.res)=some pK)&&(g'.all (outside base (bD res).length)&&(xA.all (DE.all (outside base (bD res).length))&&(g.all (outside gM (bD pK).length)&&args.all (DE.all (outside gM (bD pK).length))))))
   |.dd p e=>decide ((sig f').map (·.res)=some pK)&&(p.all (outside gM (bD pK).length)&&e.all (outside gM (bD pK).length))
   |_=>false)
 | .dd p' e'=>(match e with
   |.dd p e=>decide (e=e')
   |_=>false)
def Ev.IQ:Ev->Nat×Nat
 |.aG p=>(0,p.key)
 |.ch id _=>(1,id)
 |.call _ _ _ _ b=>(2,b)
 |.dd p _=>(3,p.key)
def UJ(a b:Nat×Nat):Bool:=decide (a.1<b.1)||(decide (a.1=b.1)&&decide (a.2<b.2))
def Ax(sig:FuncId->Option bN):List Ev->Nat->List Ev->Nat->Nat×Nat->Nat
 |_,_,[],b,_=>b
 |pre,i,e::es,b,r=>if UJ e.IQ r&&pre.all (fun e1=>indep sig e1 e)then Ax sig (e::pre) (i+1) es i e.IQ else Ax sig (e::pre) (i+1) es b r
def GR(sig:FuncId->Option bN):Nat->List Ev->List Ev
 |0,es=>es
 |_+1,[]=>[]
 | n+1,e::es=>match(e::es)[Ax sig [e] 1 es 0 e.IQ]? with
   |some x=>if((e::es).take (Ax sig [e] 1 es 0 e.IQ)).all (fun e1=>indep sig e1 x)then x::GR sig n ((e::es).eraseIdx (Ax sig [e] 1 es 0 e.IQ))else e::es
   |none=>e::es
def xB(sig:FuncId->Option bN)(es:List Ev):List Ev:=GR sig es.length es
abbrev sX:=List (Nat×Nat×St×(List Ev×St))
def Dm(n m:Nat)(st:St):sX->Option (List Ev×St)
 | []=>none
 |(n',m',jq,r)::T=>if(Nat.beq m' m&&Nat.beq n' n)&&decide (jq=st)then some r else Dm n m st T
def tb(m i:Nat):Bool:=Nat.beq (Nat.land (Nat.shiftRight m i) 1) 1
def oQ(m i:Nat):Nat:=Nat.lor m (Nat.pow 2 i)
def bitsOf(p:Nat->Bool):List Nat->Nat
 | []=>0
 |j::r=>bif p j then Nat.lor (Nat.pow 2 j) (bitsOf p r)else bitsOf p r
structure RO where
 i:Nat
 o:Oper
 dep:Nat
 bad:Nat
def BA(ops:Array Oper)(i:Nat)(o:Oper):RO:=⟨i,o,bitsOf (fun j=>o.after.toList.any fun e=>Region.binds .any e&&Nat.beq e.on j) (List.range ops.size),
 bitsOf (fun j=>!(Nat.beq j i) && !(match ops[j]? with
   |some oj=>oj.after.toList.any (fun e=>Region.binds .any e&&Nat.beq e.on i)||o.apart ops oj
   |none=>true)) (List.range ops.size)⟩
def jr(ops:Array Oper):List RO:=(List.range ops.size).filterMap fun i=>(ops[i]?).map (BA ops i)
def nF(ops:Array Oper):Bool:=ops.toList.all fun o=>o.after.toList.all fun e=>!Region.binds .any e||Nat.blt e.on ops.size
def RO.ready(m:Nat)(r:RO):Bool:=!tb m r.i&&Nat.beq (Nat.land r.dep m) r.dep
def RO.free(m:Nat)(r:RO):Bool:=Nat.beq (Nat.land r.bad m) r.bad
def sw(acc:List Nat)(es:List Edge):Nat:=es.foldl (fun m e=>if Region.binds .any e&&Nat.blt e.on acc.length then Nat.lor (oQ m e.on) (acc.getD e.on 0)else m) 0
def IS(ops:List Oper):List Nat:=ops.foldl (fun acc o=>acc++[sw acc o.after.toList]) []
structure WQ where
 ws:List (Nat×Nat×Nat)
 al:Option (List Nat)
def WQ.wf(q:WQ)(m:Nat):List Nat:=match q.al with
 |some W=>W
 |none=>(q.ws.filter fun p=>tb m p.1).map fun p=>p.2.1
def WQ.wt(q:WQ)(i:Nat):List Nat:=match q.al with
 |some W=>W
 |none=>(q.ws.filter fun p=>!tb p.2.2 i).map fun p=>p.2.1
def WQ.ok(q:WQ)(i:Nat):Bool:=match q.al with
 |some _=>true
 |none=>q.ws.all fun p=>!Nat.beq p.1 i
def K5(ops:Array Oper)(W:List (Nat×Nat)):WQ:=⟨(W.filter fun p=>Nat.blt p.1 ops.size).map fun p=>(p.1,p.2,(IS ops.toList).getD p.1 0),none⟩
def ly(P:Program)(aJ:jo)(ops:Array Oper)(cc:St)(q:WQ)(m:Nat)(st:St):List RO->Option (RO×List Ev×St)
 | []=>none
 |r::rs=>if r.free m&&q.ok r.i then(match guardOf ops st r.o with
     |none=>ly P aJ ops cc q m st rs
     | some G=>if tM P cc (q.wt r.i) st G r.o.op then(match Ut P aJ.fF st G r.o.op with
       | some (ns,sv)=>match st.IM r.o.dst ⟨G,sv⟩with
         |some aZ=>some (r,pt G ns,aZ)
         |none=>none
       |none=>ly P aJ ops cc q m st rs)else ly P aJ ops cc q m st rs)else ly P aJ ops cc q m st rs
def xC(aJ:jo)(zf:UI)(cc:St)(wf:Nat->List Nat)(sd base:Nat)(st:St)(next:Nat->St->sX->Option ((List Ev×St)×sX))(r:RO)(T:sX):Option ((List Ev×St)×sX):=
 if xy (wf r.i) st r.o.op&&keeps cc (wf r.i) st then(match zf st (base+r.i*sd) r.o with
   | some (cY,aZ)=>match next r.i aZ T with
     |some ((wC,Iq),T')=>some ((xB aJ.sig (cY++wC),Iq),T')
     |none=>none
   |none=>none)else none
def Dn(go:RO->sX->Option ((List Ev×St)×sX))(x:List Ev×St):List RO->sX->Option sX
 | [],T=>some T
 | i::is,T=>match go i T with
   |some (y,T')=>if y=x then Dn go x is T' else none
   |none=>none
def explore(P:Program)(aJ:jo)(zf:UI)(ops:Array Oper)(jF:List RO)(fin:Option Nat)(cc:St)(q:WQ)(sd base:Nat):Nat->Nat->St->sX->Option ((List Ev×St)×sX)
 | 0,m,st,T=>match fin with
   | none=>(match jF.filter (RO.ready m)with
     | []=>some (([],st),T)
     |_::_=>none)
   |some l=>if Nat.beq m l then some (([],st),T)else none
 | n+1,m,st,T=>
   match jF.filter (RO.ready m)with
   | []=>(match fin with
     |none=>some (([],st),T)
     |some _=>none)
   | r::rs=>match ly P aJ ops cc q m st (r::rs)with
     | some (r',cY,aZ)=>match explore P aJ zf ops jF fin cc q sd base n (oQ m r'.i) aZ T with
       |some ((wC,Iq),T')=>some ((cY++wC,Iq),T')
       |none=>none
     | none=>match Dm (n+1) m st T with
       |some x=>some (x,T)
       | none=>match xC aJ zf cc (fun i=>q.wf (oQ m i)) sd base st (fun i aZ T=>explore P aJ zf ops jF fin cc q sd base n (oQ m i) aZ T) r T with
         | some (x,T')=>match Dn (xC aJ zf cc (fun i=>q.wf (oQ m i)) sd base st (fun i aZ T=>explore P aJ zf ops jF fin cc q sd base n (oQ m i) aZ T)) x rs T' with
           |some T''=>some (x,(n+1,m,st,x)::T'')
           |none=>none
         |none=>none
def Zr(cc st:St):Op->Bool
 | .store _ a _=>match bl st (.c true) a with
   |some (.p id _)=>!(cc.has id)&&(fz st id).isSome
   |_=>false
 |.call {callee:=.builtin .append,..}=>false
 |.call {callee:=.builtin .copy,..}=>false
 |.call {callee:=.builtin .clear,..}=>false
 |_=>true
def K6(zC key:Nat)(st:St):Nat:=st.nz.foldl (fun m d=>if decide (key<=d.1)&&decide (d.1<zC)then max m d.2 else m) key
abbrev qv:=St->Nat->Option Tmp->Spec->Option (List Ev×St)
def GU(P:Program)(aJ:jo)(rec:qv)(ops:Array Oper)(st:St)(key:Nat)(o:Oper):Option (List Ev×St):=
 match guardOf ops st o with
 | some (.c true)=>match uZ aJ st (.c true) o.op with
   |some sp=>rec st key o.dst sp
   |none=>qt P aJ ops st key o
 |_=>qt P aJ ops st key o
def QS(P:Program)(aJ:jo)(rec:qv)(ops:Array Oper)(cc:St):UI:=fun st key o=>if Zr cc st o.op then GU P aJ rec ops st key o else none
def xD(P:Program)(aJ:jo)(rec:qv)(ops:Array Oper)(zC:Nat)(cc:St):List Oper->Nat->St->Option (List Ev×St×Nat)
 | [],key,st=>some ([],st,key)
 | o::rest,key,st=>if Zr cc st o.op then(match GU P aJ rec ops st key o with
   | some (cY,jq)=>match xD P aJ rec ops zC cc rest (K6 zC key jq) jq with
     |some (wC,sY,rY)=>some (cY++wC,sY,rY)
     |none=>none
   |none=>none)else none
def BB(P:Program)(aJ:jo)(rec:qv)(zC:Nat)(cc:St):Code->Nat->St->Option (List Ev×St×Nat)
 |.skip,key,st=>some ([],st,key)
 | .seq a b,key,st=>match BB P aJ rec zC cc a key st with
   | some (cY,jq,IT)=>match BB P aJ rec zC cc b IT jq with
     |some (wC,sY,IU)=>some (cY++wC,sY,IU)
     |none=>none
   |none=>none
 |.region _ ops false,key,st=>xD P aJ rec ops zC cc ops.toList key st
 | .region _ ops true,key,st=>if Region.noSelect ops&&P.follows .mixedOrders&&nF ops then(match written (QS P aJ rec ops cc) GQ key 0 ops.toList st with
   | some W=>match explore P aJ (QS P aJ rec ops cc) ops (jr ops) none st (K5 ops W) GQ key ops.size 0 st []with
     |some ((cY,aZ),_)=>some (cY,aZ,K6 zC key aZ)
     |none=>none
   |none=>none)else none
 |_,_,_=>none
def rF(P:Program)(aJ:jo)(rec:qv)(zC:Nat)(cc:St):Code->Nat->St->Option (List Ev×St×Nat)
 | .seq a b,key,st=>match BB P aJ rec zC cc a key st with
   | some (cY,jq,IT)=>match rF P aJ rec zC cc b IT jq with
     |some (wC,sY,IU)=>some (cY++wC,sY,IU)
     |none=>none
   |none=>none
 |.ret,key,st=>some ([],st,key)
 |c,key,st=>BB P aJ rec zC cc c key st
def mS(P:Program)(aJ:jo)(zC:Nat):Nat->qv
 |0,_,_,_,_=>none
 |_+1,st,_,dst,.aG ok e=>if mj aJ.dB st then some ([.dd ok e],st.put dst ⟨.c true,.ED []⟩)else none
 | n+1,st,key,dst,.inl g vs=>match P.funcs[g]? with
   | some fn=>match fn.body with
     | some c=>if fn.name == "runtime.NumGoroutine" then none else match rF P aJ (mS P aJ zC n) zC st c key (oP fn vs st)with
       | some (cY,aZ,_)=>match qu P aZ fn.results.toList with
         |some rv=>if dm aZ.has rv then some (cY,sW st aZ dst (nY rv))else none
         |none=>none
       |none=>none
     |none=>none
   |none=>none
 |_+1,_,_,_,.IP _ _=>none
 |_+1,st,_,dst,.val x=>some ([],st.put dst ⟨.c true,.v x⟩)
def kg(P:Program)(aJ:jo)(ops:Array Oper)(st:St)(key:Nat)(o:Oper):Option (List Ev×St):=
 match guardOf ops st o with
 | some (.c true)=>match uZ aJ st (.c true) o.op with
   |some sp=>mS P aJ (key+fZ) 4 st key o.dst sp
   |none=>qt P aJ ops st key o
 |_=>qt P aJ ops st key o
def qw(n:Nat)(st:St):Nat:=st.nz.foldl (fun m d=>max m d.2) n
def rG(st:St)(r:List Ev×St):Option (List Ev×St):=
 if decide (r.2.next=st.next)then some (r.1,{r.2 with next:=qw st.next r.2,nz:=[] })else none
def tO(P:Program)(aJ:jo)(ops:Array Oper)(st:St):Option (List Ev×St):=
 if Region.noSelect ops&&P.follows .mixedOrders&&nF ops then(match written (kg P aJ ops) fZ st.next 0 ops.toList st with
   | some W=>match explore P aJ (kg P aJ ops) ops (jr ops) none st (K5 ops W) fZ st.next ops.size 0 st []with
     |some (r,_)=>rG st r
     |none=>none
   |none=>none)else none
def E4(st:St):List Nat:=st.aT.map (·.id)++(st.rows.map (·.id)++st.aY.map (·.id))
def nG(m n:Nat):List Bool:=List.replicate m true++List.replicate (n-m) false
def BC(jF:List RO)(m:Nat):Bool:=jF.all fun r=>!tb m r.i||Nat.beq (Nat.land r.dep m) r.dep
def wQ(P:Program)(aJ:jo)(ops:Array Oper)(cc:St)(W:List Nat)(lo:Nat)(hi:Option Nat)(st:St):Option (List Ev×St):=
 match hi with
 |some hi=>if BC (jr ops) (Nat.pow 2 lo-1)&&decide (hi<ops.size)&&decide (lo<=hi)&&decide (((jr ops).filter (RO.ready (Nat.pow 2 hi-1))).map RO.i=[hi])then(match explore P aJ (kg P aJ ops) ops (jr ops) (some (Nat.pow 2 hi-1)) cc ⟨[],some W⟩ fZ st.next (hi-lo) (Nat.pow 2 lo-1) st []with
     |some (r,_)=>rG st r
     |none=>none)else none
 |none=>if BC (jr ops) (Nat.pow 2 lo-1)&&decide (lo<=ops.size)then(match explore P aJ (kg P aJ ops) ops (jr ops) none cc ⟨[],some W⟩ fZ st.next (ops.size-lo) (Nat.pow 2 lo-1) st []with
     |some (r,_)=>rG st r
     |none=>none)else none
def E5(cc:St)(W:List Nat)(st:St):Bool:=
 cc.aT.all (fun b=>W.contains b.id||decide (fz st b.id=some b))&&cc.rows.all (fun r=>W.contains r.id)
def nZ(aJ:jo)(st:St):St:=QR {st with aT:=kL ⟨st.next,aJ.nE,[.i .i64 (.c 0)]⟩ st.aT}
def fi(aJ:jo)(st:St):St:={nZ aJ st with aT:=(nZ aJ st).aT.filter fun b=>!aJ.Dk.contains b.id}
def kz(st:St)(id:Nat)(e:IE):St:={st with aT:=st.aT.map fun b=>if b.id=id then {b with cells:=[.i .i64 e] }else b}
def sZ:List Ev->aw->aw
 | [],t=>t
 |.dd p e::es,t=>.ite p (sZ es t) (.fail e)
 |e::es,t=>.ev e (sZ es t)
abbrev Ex:=Option St->FuncId->List V1->St->(List V1->St->aw)->aw
def GV(aJ:jo)(h:Option St)(ex:Ex)(st:St)(dst:Option Tmp)(rest:St->aw):Spec->aw
 |.inl g vs=>ex h g vs st fun rv aZ=>rest (sW st aZ dst (nY rv))
 |.aG ok e=>.ite ok (rest (st.put dst ⟨.c true,.ED []⟩)) (Tl h st e)
 |.val x=>rest (st.put dst ⟨.c true,.v x⟩)
 |.IP g vs=>if aJ.Dk.contains st.next then .stuck "drops" else .ak5 (st.next+1) (rest (sW st (kz (fi aJ st) st.next (.v (st.next+1))) dst (.v (.one (.i .i64 (.v (st.next+1)))))))
     (ex (some (fi aJ st)) g vs (nZ aJ st) fun rv aZ=>if decide (rv=[])&&decide (fz aZ st.next=some ⟨st.next,aJ.nE,[.i .i64 (.c 0)]⟩)then .pop (rest (sW st aZ dst (.v (.one (.i .i64 (.c 0))))))else .stuck "try")
def jt(P:Program)(aJ:jo)(h:Option St)(ops:Array Oper)(ex:Ex):List Oper->St->(St->aw)->aw
 | [],st,k=>k st
 | o::rest,st,k=>match guardOf ops st o with
   |none=>.stuck ("guard " ++ o.pos)
   | some G=>match uZ aJ st G o.op with
     | none=>(match qt P aJ ops st st.next o with
       | some r=>match rG st r with
         |some (cY,aZ)=>sZ cY (jt P aJ h ops ex rest aZ k)
         |none=>.stuck "names"
       |none=>.stuck ("operation " ++ o.pos ++ " slot " ++ toString (o.dst.getD 0)))
     | some sp=>
       match G with
       |.c true=>GV aJ h ex st o.dst (fun aZ=>jt P aJ h ops ex rest aZ k) sp
       |.c false=>jt P aJ h ops ex rest (st.put o.dst jk) k
       |G=>.ite G (GV aJ h ex st o.dst (fun aZ=>jt P aJ h ops ex rest aZ k) sp) (jt P aJ h ops ex rest ((st.know G false).put o.dst jk) k)
def K7(P:Program)(aJ:jo)(ops:Array Oper)(base:Nat):Nat->List Oper->St->String
 |_,[],_=> "all"
 | i,o::rest,st=>match kg P aJ ops st (base+i*fZ) o with
   |some (_,aZ)=>K7 P aJ ops base (i+1) rest aZ
   |none=> "op " ++ toString i ++ " " ++ o.pos
def xE(aJ:jo)(zf:UI)(ops:Array Oper)(last:Bool)(base:Nat):Nat->Array Bool->St->Option (List Ev×St)
 |0,_,st=>some ([],st)
 | n+1,listed,st=>match(if last then(Region.ready .any ops listed).reverse else Region.ready .any ops listed)with
   | []=>some ([],st)
   | i::_=>match ops[i]? with
     |none=>none
     | some o=>match zf st (base+i*fZ) o with
       | some (cY,aZ)=>match xE aJ zf ops last base n (listed.setIfInBounds i true) aZ with
         |some (wC,Iq)=>some (xB aJ.sig (cY++wC),Iq)
         |none=>none
       |none=>none
def adw(P:Program)(aJ:jo)(ops:Array Oper)(st:St):String:=
 match xE aJ (kg P aJ ops) ops false st.next ops.size (Array.replicate ops.size false) st,xE aJ (kg P aJ ops) ops true st.next ops.size (Array.replicate ops.size false) st with
 |some x,some y=>if x=y then "same" else "evs " ++ toString (decide (x.1=y.1)) ++ " tmps " ++ toString (decide (x.2.tmps=y.2.tmps)) ++ " blks " ++ toString (decide (x.2.aT=y.2.aT)) ++ " rows " ++ toString (decide (x.2.rows=y.2.rows)) ++ " dom " ++ toString (decide (x.2.nz=y.2.nz))++(reprStr x.1).replace "Go.Sx." "" ++ " ---- " ++ (reprStr y.1).replace "Go.Sx." ""
 |some _,none=> "none 2" |none,_=> "none 1"
def tP(P:Program)(aJ:jo)(h:Option St)(ops:Array Oper)(ex:Ex)(cc:St)(W:List Nat):List Nat->Nat->St->(St->aw)->aw
 | [],lo,st,k=>match wQ P {aJ with dB:=h} ops cc W lo none st with
   |some (cY,aZ)=>sZ cY (k aZ)
   |none=>.stuck ("region, end " ++ toString lo ++ " " ++ ((ops[0]?).map (·.pos)).getD "")
 | p::ps,lo,st,k=>match wQ P {aJ with dB:=h} ops cc W lo (some p) st with
   | some (cY,aZ)=>sZ cY (match ops[p]? with
     |some o=>jt P aJ h ops ex [o] aZ fun sY=>if E5 cc W sY then tP P aJ h ops ex cc W ps (p+1) sY k else .stuck "region, kept"
     |none=>.stuck "tail")
   |none=>.stuck ("region, up to " ++ toString p ++ " " ++ ((ops[0]?).map (·.pos)).getD "" ++ " ready " ++ toString (Region.ready .any ops (nG p ops.size).toArray) ++ " blocks" ++ String.join (st.aT.map fun b=> " " ++ toString b.id ++ ":T" ++ toString b.ty) ++ " " ++ K7 P {aJ with dB:=h} ops st.next lo ((ops.toList.drop lo).take (p-lo)) st)
def fV:Code->Option Nat
 |.region id _ _=>some id
 | .seq a b=>match fV a with
   |some i=>some i
   |none=>fV b
 | .cond _ a b=>match fV a with
   |some i=>some i
   |none=>fV b
 |.block _ a=>fV a
 |.loop a=>fV a
 |.scope a=>fV a
 |_=>none
def Dp:Code->List Nat
 |.region _ ops _=>ops.toList.filterMap (·.dst)
 |.seq a b=>Dp a++Dp b
 |.cond _ a b=>Dp a++Dp b
 |.block _ a=>Dp a
 |.loop a=>Dp a
 |.scope a=>Dp a
 |_=>[]
structure Head where
 st:St
 entry:List DE
 ks:List CT
def gj(ds:List Nat)(hr:List (Nat×TypeId×List CK))(hn:List (Nat×TypeId×List NK)):Nat->Nat->List (Option aP)->List Row->List dG->Option (List (Option aP)×List Row×List dG×List DE×List CT×Nat)
 |_,id,[],rs,ns=>some ([],rs,ns,[],[],id)
 | t,id,s::rest,rs,ns=>match hr.find? (fun h=>h.1==t)with
   | some (_,e,ks)=>match s with
     | some ⟨.c true,.v (.one .jH)⟩=>if 0<ks.length then(match gj ds hr hn (t+1) (id+1) rest rs ns with
       |some (ss,dW,oG,es,cs,n)=>some (some ⟨.c true,.v (.one (.s id))⟩::ss,dc ⟨id,e,ks,id,true,.c true⟩ dW,oG,.nil::es,.s e ks::cs,n)
       |none=>none)else none
     | some ⟨.c true,.v (.one (.s r))⟩=>match rs.find? (fun x=>x.id==r)with
       |some x=>if x.own&&decide (x.g = .c true)&&decide (x.e=e)&&decide (x.ks=ks)then
           (match gj ds hr hn (t+1) (id+1) rest (rs.filter fun y=>y.id≠r) ns with
           |some (ss,dW,oG,es,cs,n)=>some (some ⟨.c true,.v (.one (.s id))⟩::ss,dc ⟨id,e,ks,id,true,.c true⟩ dW,oG,.l x.lv::es,.s e ks::cs,n)
           |none=>none)else none
       |none=>none
     |_=>none
   |none=>match hn.find? (fun h=>h.1==t)with
   | some (_,e,aK)=>match s with
     | some ⟨.c true,.v (.one .jH)⟩=>if 0<aK.length then(match gj ds hr hn (t+1) (id+1) rest rs ns with
       |some (ss,dW,oG,es,cs,n)=>some (some ⟨.c true,.v (.one (.s id))⟩::ss,dW,sT ⟨id,e,aK,id,.c true,true⟩ oG,.nil::es,.n e aK::cs,n)
       |none=>none)else none
     | some ⟨.c true,.v (.one (.s r))⟩=>match ns.find? (fun x=>x.id==r)with
       |some x=>if x.own&&decide (x.e=e)&&decide (x.aK=aK)then
           (match gj ds hr hn (t+1) (id+1) rest rs (ns.filter fun y=>y.id≠r)with
           |some (ss,dW,oG,es,cs,n)=>some (some ⟨.c true,.v (.one (.s id))⟩::ss,dW,sT ⟨id,e,aK,id,.c true,true⟩ oG,.l x.lv::es,.n e aK::cs,n)
           |none=>none)else none
       |none=>none
     |_=>none
   |none=>if ds.contains t then
       (match s with
       | some ⟨.c true,.v (.one (.i k e))⟩=>match gj ds hr hn (t+1) (id+1) rest rs ns with
         |some (ss,dW,oG,es,cs,n)=>some (some ⟨.c true,.v (.one (.i k (.v id)))⟩::ss,dW,oG,.i e::es,.c (.i k)::cs,n)
         |none=>none
       | some ⟨.c true,.v (.one (.b e))⟩=>match gj ds hr hn (t+1) (id+1) rest rs ns with
         |some (ss,dW,oG,es,cs,n)=>some (some ⟨.c true,.v (.one (.b (.v id)))⟩::ss,dW,oG,.b e::es,.c .b::cs,n)
         |none=>none
       | _=>match gj ds hr hn (t+1) id rest rs ns with
         |some (ss,dW,oG,es,cs,n)=>some (none::ss,dW,oG,es,cs,n)
         |none=>none)
     else match gj ds hr hn (t+1) id rest rs ns with
       |some (ss,dW,oG,es,cs,n)=>some (s::ss,dW,oG,es,cs,n)
       |none=>none
def dO(fG:List Nat)(base:Nat):Nat->List Row->List Row×List DE×List CT
 |_,[]=>([],[],[])
 |id,r::rs=>if fG.contains r.id&&decide (r.id<base)&&r.own&&decide (r.g = .c true)then
     ({r with lv:=id}::(dO fG base (id+1) rs).1,.l r.lv::(dO fG base (id+1) rs).2.1,.s r.e r.ks::(dO fG base (id+1) rs).2.2)
   else(r::(dO fG base id rs).1,(dO fG base id rs).2.1,(dO fG base id rs).2.2)
def oR(l:ah):Option aP:=some ⟨.c true,.v (.one l)⟩
def ew:List gC->List (Option aP)
 | []=>[]
 |b::bs=>b.cells.map oR++ew bs
def E6:Option aP->Option ah
 |some ⟨.c true,.v (.one l)⟩=>some l
 |_=>none
def ml:List (Option aP)->Option (List ah)
 | []=>some []
 | s::ss=>match E6 s,ml ss with
   |some l,some ls=>some (l::ls)
   |_,_=>none
def xF:List gC->List (Option aP)->Option (List gC)
 | [],_=>some []
 | b::bs,ss=>match ml (ss.take b.cells.length),xF bs (ss.drop b.cells.length)with
   |some cs,some Tm=>some ({b with cells:=cs}::Tm)
   |_,_=>none
def Ay(hs:List (Nat×Nat))(cr:List (Nat×Nat×TypeId×List CK))(st:St):Nat->List gC->List Nat×List (Nat×TypeId×List CK)×List (Nat×TypeId×List NK)
 |_,[]=>([],[],[])
 | t,b::bs=>
   let js:=(List.range b.cells.length).filter fun j=>hs.contains (b.id,j)
   let r:=Ay hs cr st (t+b.cells.length) bs
   (js.map (t + ·)++r.1,(js.filterMap fun j=>match b.cells[j]? with
     |some (ah.s q)=>(bC st q).map fun x=>(t+j,x.e,x.ks)
     |some ah.jH=>(cr.find? fun x=>x.1==b.id&&x.2.1==j).map fun x=>(t+j,x.2.2.1,x.2.2.2)
     |_=>none)++r.2.1,(js.filterMap fun j=>match b.cells[j]? with
     | some (ah.s q)=>match bC st q with
       |some _=>none
       |none=>(eC st q).map fun x=>(t+j,x.e,x.aK)
     |_=>none)++r.2.2)
def E7(c:Code)(h:Hint)(st:St):Option Head:=
 let r:=Ay h.cells h.Zo st st.tmps.length st.aT
 match gj (Dp c++r.1) (h.rows++r.2.1) (h.aY++r.2.2) 0 st.next (st.tmps++ew st.aT) st.rows st.aY with
 |none=>none
 | some (ss,rs,ns,es,ks,n)=>match xF st.aT (ss.drop st.tmps.length)with
   |some bs=>some {st:={tmps:=ss.take st.tmps.length,aT:=bs,rows:=(dO h.fG st.next n rs).1,aY:=ns,next:=n+(dO h.fG st.next n rs).2.1.length,nz:=[] },entry:=es++(dO h.fG st.next n rs).2.1,ks:=ks++(dO h.fG st.next n rs).2.2}
   |none=>none
def nodupB:List Nat->Bool
 | []=>true
 |x::xs=>!xs.contains x&&nodupB xs
def xG(base id:Nat)(h l:ah):Option (List (DE×Option Nat)):=
 if h=l/\h.all (fun k=>decide (k<base))=true then some []else
 match h,l with
 |.i k (.v j),.i k' e=>if j=id/\k=k' then some [(.i e,none)]else none
 |.b (.v j),.b e=>if j=id then some [(.b e,none)]else none
 |_,_=>none
def xH(base:Nat)(st:St)(id:Nat)(h s:Option aP):Option (List (DE×Option Nat)):=
 match h with
 |none=>some []
 | some h=>if s=some h/\h.all (fun k=>decide (k<base))=true then some []else
   match h,s with
   | ⟨.c true,.v (.one (.s j))⟩,some ⟨.c true,.v (.one (.s r))⟩=>if j=id then(match bC st r with
     |some y=>some [(.l y.lv,some r)]
     | none=>match eC st r with
       |some y=>some [(.l y.lv,some r)]
       |none=>none)else none
   |⟨.c true,.v (.one (.s j))⟩,some ⟨.c true,.v (.one .jH)⟩=>if j=id then some [(.nil,none)]else none
   |⟨.c true,.v (.one a)⟩,some ⟨.c true,.v (.one b)⟩=>xG base id a b
   |_,_=>none
def n5(base:Nat)(st:St):Nat->List (Option aP)->List (Option aP)->Option (List (DE×Option Nat))
 |_,[],[]=>some []
 | id,h::hs,s::ss=>match xH base st id h s with
   | some d=>match n5 base st (id+d.length) hs ss with
     |some ds=>some (d++ds)
     |none=>none
   |none=>none
 |_,_,_=>none
def sameShape(base:Nat)(st:St):List gC->Option (List gC)
 | []=>some []
 | h::hs=>match fz st h.id,sameShape base st hs with
   |some b,some bs=>if b.ty=h.ty/\h.id<base/\b.cells.length=h.cells.length then some (b::bs)else none
   |_,_=>none
def GX(base:Nat)(st:St)(L:List (DE×Option Nat))(x:Row):Bool:=
 if x.id<base then(if x.lv<base then decide (bC st x.id=some x)&&x.all (fun k=>decide (k<base))
   else x.own&&decide (x.g = .c true)&&(match L[x.lv-base]?,bC st x.id with
     |some (.l lv,none),some y=>y.own&&decide (y.g = .c true)&&decide (y.e=x.e)&&decide (y.ks=x.ks)&&decide (y.lv=lv)
     |_,_=>false))
 else decide (x.lv=x.id)&&x.own&&decide (x.g = .c true)&&(match L[x.id-base]? with
   | some (.l lv,some r)=>(match bC st r with
     |some y=>y.own&&decide (y.g = .c true)&&decide (y.e=x.e)&&decide (y.ks=x.ks)&&decide (y.lv=lv)
     |none=>false)
   |some (.nil,none)=>decide (0<x.ks.length)
   |_=>false)
def xI(base:Nat)(st:St)(L:List (DE×Option Nat))(x:dG):Bool:=
 if x.id<base then decide (eC st x.id=some x)&&x.all (fun k=>decide (k<base))
 else decide (x.lv=x.id)&&x.own&&decide (x.g = .c true)&&(match L[x.id-base]? with
   | some (.l lv,some r)=>(match bC st r,eC st r with
     |none,some y=>y.own&&decide (y.e=x.e)&&decide (y.aK=x.aK)&&decide (y.lv=lv)
     |_,_=>false)
   |some (.nil,none)=>decide (0<x.aK.length)
   |_=>false)
def qx:CT->DE->Bool
 |.c (.i _),.i _=>true
 |.c .b,.b _=>true
 |.c .f,.i _=>true
 |.s _ _,.l _=>true
 |.s _ _,.nil=>true
 |.n _ _,.l _=>true
 |.n _ _,.nil=>true
 |_,_=>false
def rH:List CT->List DE->Bool
 | [],[]=>true
 |c::cs,d::ds=>qx c d&&rH cs ds
 |_,_=>false
def origins(L:List (DE×Option Nat)):List Nat:=L.filterMap (·.2)
def K8(base:Nat)(st:St):Nat->List Row->Option (List (DE×Option Nat))
 |_,[]=>some []
 |id,x::xs=>if x.id<base/\base<=x.lv then(if x.lv=id then(match bC st x.id,K8 base st (id+1) xs with
     |some y,some L=>some ((.l y.lv,none)::L)
     |_,_=>none)else none)else K8 base st id xs
def back(base:Nat)(ks:List CT)(h st:St):Option (List DE):=
 match sameShape base st h.aT with
 | some bs=>match n5 base st base (h.tmps++ew h.aT) (st.tmps++ew bs)with
   | some L1=>match K8 base st (base+L1.length) h.rows with
     | some L2=>if decide (h.tmps.length=st.tmps.length)&&(h.rows.all (GX base st (L1++L2))&&nodupB (origins (L1++L2))&&(origins (L1++L2)).all (fun r=>!(h.rows.any fun x=>decide (x.id<base)&&x.id==r) && !(h.aY.any fun x=>decide (x.id<base)&&x.id==r))&&rH ks ((L1++L2).map (·.1)))&&h.aY.all (xI base st (L1++L2))
       then some ((L1++L2).map (·.1))else none
     |none=>none
   |none=>none
 |none=>none
inductive K where
 |code (c:Code)
 |lQ (id:Nat)
 |loop (c:Code)
 |wH (c:Code) (id base:Nat) (head:St) (ks:List CT)
def tQ(id:Nat):List K->Option (List K)
 | []=>none
 |.lQ tA::k=>if tA=id then some k else tQ id k
 |_::k=>tQ id k
def tR(id:Nat):List K->Bool
 | []=>false
 |.wH _ tA _ _ _::k=>tA==id||tR id k
 |_::k=>tR id k
def rowsOf:List V1->List Nat
 | []=>[]
 |v::vs=>(v.leaves.filterMap fun| .s r=>some r|_=>none)++rowsOf vs
def oS(res:List VT)(vs:List V1)(st:St):aw:=
 match res,vs with
 | [.ptr e ks],[.one (.p id 0)]=>(match fz st id with
   | some b=>if decide (b.ty=e)&&decide (0<ks.length)then(match ei ks b.cells with
     |some xs=>.ret [.sU xs]
     |none=>.stuck "ret. cells")else .stuck "ret. block"
   |none=>.stuck "ret. no block")
 | res,vs=>match mi st (.c true) res vs with
   |some ds=>if gE res&&nodupB (rowsOf vs)&&(rowsOf vs).all (fun r=>match bC st r with|some x=>x.own&&decide (x.g = .c true)|none=>false)
       then .ret ds else if eI res&&(bD res).any CT.uA&&oO (bD res)&&(rowsOf vs).all (fun r=>match bC st r,eC st r with|none,some x=>x.own|_,_=>false)
       then .ret ds else .stuck "ret. a row that is not own"
   |none=>.stuck "ret. types"
def mo(sg:bN)(vs:List V1)(st:St):aw:=
 match mi st (.c true) sg.res vs with
 |some ds=>if gE sg.res&&uY (cC (bt vs))&&(cC (bt vs)).all (fun r=>match bC st r with
     |some x=>decide (x.g = .c true)&&(x.own||(decide (x.id<sg.cons)&&decide (x.lv=x.id)&&decide ((bD sg.args)[x.id]?=some (.s x.e x.ks))))
     |none=>false)
     then .ret ds else .stuck "ret. a row that is neither own nor handed over"
 |none=>.stuck "ret. types"
def QT(P:Program)(fn:Func)(st:St)(kr:List V1->St->aw):aw:=
 match qu P st fn.results.toList with
 |some vs=>if dm st.has vs then kr vs st else .stuck "ret. names"
 |none=>.stuck "ret. a result"
def ah.fix(k:Nat)(v:Int):ah->ah
 |.i kd (.v j)=>if j=k then .i kd (.c v)else .i kd (.v j)
 |l=>l
def V1.fix(k:Nat)(v:Int):V1->V1
 |.one l=>.one (l.fix k v)
 |.agg ls=>.agg (ls.map (ah.fix k v))
def SV.fix(k:Nat)(v:Int):SV->SV
 |.v x=>.v (x.fix k v)
 |.ED xs=>.ED (xs.map (V1.fix k v))
def St.fix(st:St)(k:Nat)(v:Int):St:=
 {st with tmps:=st.tmps.map (fun s=>s.map fun s=>{s with sv:=s.sv.fix k v}),aT:=st.aT.map fun b=>{b with cells:=b.cells.map (ah.fix k v) } }
def K9(no:List (Nat×Int)):BE->Bool
 |.eq (.v k) (.c n)=>no.contains (k,n)
 |_=>false
def s6(k:Nat)(f:Int->aw)(d:aw):List Nat->aw
 | []=>d
 |v::vs=>.ite (.eq (.v k) (.c (v:Int))) (f (v:Int)) (s6 k f d vs)
def E8(k:Nat)(f:Int->aw):List Nat->aw
 | []=>.stuck "split"
 |v::vs=>.ite (.eq (.v k) (.c (v:Int))) (f (v:Int)) (E8 k f vs)
def BD(go:St->aw):List (Nat×Nat×Nat)->St->aw
 | [],st=>go st
 |(_,x,m)::ps,st=>E8 x (fun v=>BD go ps (st.fix x v)) (List.range m)
def gid(f:FuncId)(i:Nat):Nat:=f*1000+i
def mq:List K->List Nat
 | []=>[]
 |.wH _ id _ _ _::k=>id::mq k
 |_::k=>mq k
def BF(P:Program)(aJ:jo)(h:Option St)(ops:Array Oper)(draw:Bool)(tail:Option (List Nat×List Nat))(ex:Ex)(st:St)(k:St->aw):aw:=
 if draw then(match tail with
   |some (ps,kb)=>if Region.noSelect ops&&P.follows .mixedOrders&&nF ops then tP P aJ h ops ex st ((E4 st).filter fun i=>!kb.contains i) ps 0 st k else .stuck "region, select"
   | none=>(match tO P {aJ with dB:=h} ops st with
     |some (cY,aZ)=>sZ cY (k aZ)
     |none=>.stuck ("region " ++ ((ops[0]?).map (·.pos)).getD "" ++ " " ++ adw P {aJ with dB:=h} ops st ++ " " ++ K7 P {aJ with dB:=h} ops st.next 0 ops.toList st)))
 else jt P aJ h ops ex ops.toList st k
def QU(P:Program)(run:Option St->FuncId->Func->Code->St->(List V1->St->aw)->aw):Ex:=fun h g vs st kr=>match P.funcs[g]? with
 | some fn=>(match fn.body with
   |some c=>if fn.name == "runtime.NumGoroutine" then .stuck "NumGoroutine" else run h g fn c (oP fn vs st) kr
   |none=>.stuck "no body")
 |none=>.stuck "no function"
def La(base:Nat)(h st:St):String:=
 "again; cells:" ++ String.join (h.aT.map fun b=>match fz st b.id with
   | some c=>String.join ((List.range b.cells.length).filterMap fun j=>match b.cells[j]?,c.cells[j]? with
     |some x,some y=>if x=y||(match x with| .i _ (.v k)=>decide (base<=k)| .b (.v k)=>decide (base<=k)| .s k=>decide (base<=k)|_=>false)then none else some (" " ++ toString b.id ++ ":" ++ toString j)
     |_,_=>none)
   | none=> " no " ++ toString b.id) ++ "; slots:" ++ String.join ((List.range h.tmps.length).filterMap fun t=>match h.tmps[t]?,st.tmps[t]? with
     |some (some x),some y=>if some x=y then none else some (" " ++ toString t)
     |_,_=>none) ++ "; rows:" ++ String.join (h.rows.filterMap fun r=>if bC st r.id=some r||decide (base<=r.id)then none else some (" " ++ toString r.id))
def exec(P:Program)(aJ:jo):Nat->Option St->List Nat->FuncId->Func->List K->St->(List V1->St->aw)->aw
 |0,_,_,_,_,_,_,_=>.stuck "fuel"
 |_+1,_,_,_,fn,[],st,kr=>QT P fn st kr
 |n+1,h,L,f,fn,.lQ _::k,st,kr=>exec P aJ n h L f fn k st kr
 |n+1,h,L,f,fn,.loop c::k,st,kr=>exec P aJ n h L f fn (.code c :: .loop c::k) st kr
 | _+1,_,_,_,_,.wH _ id base hd ks::_,st,_=>match back base ks hd st with
   |some bJ=>.again id bJ
   |none=>.stuck (toString id ++ " " ++ La base hd st)
 | n+1,h,L,f,fn,.code c::k,st,kr=>match c with
   |.skip=>exec P aJ n h L f fn k st kr
   |.label _=>exec P aJ n h L f fn k st kr
   |.seq a b=>exec P aJ n h L f fn (.code a :: .code b::k) st kr
   | .cond x a b=>match bl st (.c true) x with
     |some (.b (.c true))=>exec P aJ n h L f fn (.code a::k) st kr
     |some (.b (.c false))=>exec P aJ n h L f fn (.code b::k) st kr
     |some (.b p)=>if K9 aJ.no p then exec P aJ n h L f fn (.code b::k) st kr else .ite p (exec P aJ n h L f fn (.code a::k) st kr) (exec P aJ n h L f fn (.code b::k) st kr)
     |_=>.stuck "cond"
   |.block id c=>exec P aJ n h L f fn (.code c :: .lQ id::k) st kr
   | .loop c=>match(fV c).bind (fun i=>(aJ.loops.find? (fun p=>p.1==gid f i)).map fun p=>(gid f i,p.2))with
     |none=>exec P aJ n h L f fn (.code c :: .loop c::k) st kr
     | some (i,hn)=>match E7 c hn st with
       |some hd=>if tR i k||L.contains i then .stuck "loop in itself" else .loop i hd.entry hd.ks st.next (exec P aJ n h L f fn (.code c :: .wH c i st.next hd.st hd.ks::k) hd.st kr)
       |none=>.stuck "loop head"
   | .exit id=>match tQ id k with
     |some k'=>exec P aJ n h L f fn k' st kr
     |none=>.stuck "exit"
   |.ret=>QT P fn st kr
   | .region id ops draw=>
     let ex:Ex:=QU P (fun h' g Kn c aZ Yj=>exec P aJ n h' (L++mq k) g Kn [.code c] aZ Yj)
     let go:St->aw:=fun st=>BF P aJ h ops draw ((aJ.Tj.find? fun p=>p.1==gid f id).map (·.2)) ex st (fun aZ=>exec P aJ n h L f fn k aZ kr)
     BD go (aJ.splits.filter fun p=>p.1==gid f id) st
   |_=>.stuck "code"
def kA(args:List VT):List V1×List Row:=
 let(vs,rows):=bX (.c true) 0 args
 (vs,rows.map fun r=>{r with own:=false})
def start(fn:Func)(args:List VT):St:=
 let(vs,rows):=kA args
 {tmps:=vs.map (fun v=>some ⟨.c true,.v v⟩)++List.replicate (fn.ntmps-vs.length) none,aT:=[],rows,aY:=dI false (.c true) 0 (bD args),next:=(bD args).length,nz:=[] }
def qy(P:Program)(aJ:jo)(f:FuncId)(fn:Func)(sg:bN)(fuel:Nat):aw:=
 match fn.body with
 | some c=>
   let ret:=if sg.cons=0 then oS sg.res else mo sg
   match aJ.xx with
   |none=>exec P aJ fuel none [] f fn [.code c] (start fn sg.args) ret
   |some (x,m)=>if decide (x<(start fn sg.args).next)then s6 x (fun v=>exec P aJ fuel none [] f fn [.code c] ((start fn sg.args).fix x v) ret)
       (exec P {aJ with no:=(List.range m).map fun(v:Nat)=>(x,(v:Int)) } fuel none [] f fn [.code c] (start fn sg.args) ret) (List.range m)else .stuck "split"
 |none=>.stuck "no body"
def gN(ks:List BE):BE->Bool
 |.and a b=>ks.contains (.and a b)||(gN ks a&&gN ks b)
 |.or a b=>ks.contains (.or a b)||(gN ks a||gN ks b)
 |.c true=>true
 |p=>ks.contains p
def qz(ks:List BE):BE->BE
 |.or (.not g) n=>if gN ks g then n else .or (.not g) n
 |p=>p
def gO(p:BE)(ks:List BE):List BE:=
 match p with
 |.and a b=>.and a b::gO a (gO b ks)
 |p=>p::ks
def prune(ks:List BE):aw->aw
 |.ret vs=>.ret vs
 |.stuck _=>.stuck ""
 |.ev (.aG p) t=>if gN ks (qz ks p)then prune ks t else .ev (.aG (qz ks p)) (prune (gO (qz ks p) ks) t)
 |.ev e t=>.ev e (prune [] t)
 |.ite c a b=>.ite c (prune (gO c ks) a) (prune ((BE.not c).mk::ks) b)
 |.loop id es kd base body=>.loop id es kd base (prune [] body)
 |.again id vs=>.again id vs
 |.fail e=>.fail e
 |.ak5 x tp t=>.ak5 x (prune [] tp) (prune ks t)
 |.pop t=>.pop (prune ks t)
def qA(l:List (FuncId×bN)):FuncId->Option bN:=fun f=>(l.find? fun p=>p.1==f).map (·.2)
theorem IE.cf(U:az)(e:IE):e.mk.ae U=e.ae U:=by
 unfold IE.mk;split<;>simp[IE.ae];split<;>simp_all
theorem BE.cf(U:az)(e:BE):e.mk.ae U=e.ae U:=by
 unfold BE.mk;split<;>simp only[BE.ae,IE.ae,Bool.not_not,Bool.true_and,Bool.false_and,Bool.and_true,Bool.or_false,Bool.false_or,Bool.true_or]
 all_goals first|rfl|(generalize BE.ae U _=y;cases y<;>rfl)
theorem BE.cD{U:az}{G g:BE}(h:G.gY g=true)(hG:G.ae U=true):g.ae U=true:=by
 induction G with
 | and x y Kh Kz=>
   unfold BE.gY at h;simp only[BE.ae,ao]at hG;simp only[fy,aC]at h;rcases h with(rfl|rfl)|(h|h)
   . rfl
   . simp[BE.ae,hG]
   . exact Kh h hG.1
   . exact Kz h hG.2
 | _=>
   unfold BE.gY at h;simp only[fy,aC]at h;rcases h with(rfl|rfl)|h
   . rfl
   . exact hG
   . cases h
theorem BE.Aa{U:az}{G n:BE}(hG:G.ae U=true)(h:(BE.under G n).ae U=true):n.ae U=true:=by
 unfold BE.under at h;split at h
 . exact h
 . simpa[BE.ae,hG]using h
theorem QB{U:az}{k:IntKind}{e:IE}(h:(inR k e).ae U=true):k.min<=e.ae U/\e.ae U<=k.max:=by
 unfold inR at h;split at h
 all_goals
   simp only[BE.ae,IE.ae,ao,aC]at h ⊢
   first|exact h|exact⟨of_decide_eq_true h.1,of_decide_eq_true h.2⟩
theorem IE.aq{p:Nat->Bool}{U ak:az}(h:∀k,p k=true->U k=ak k):∀ {e:IE},e.all p=true->e.ae U=e.ae ak:=by
 intro e;induction e with
 |v k=>intro ha;simp only[IE.all]at ha;simp[IE.ae,h k ha]
 |c n=>intro _;rfl
 |len k=>intro ha;simp only[IE.all]at ha;simp[IE.ae,h k ha]
 |get k i j ih=>intro ha;simp only[IE.all,ao]at ha;simp[IE.ae,h k ha.1,ih ha.2]
 |kq i n a b rW rX Un=>intro ha;simp only[IE.all,ao]at ha;simp[IE.ae,rW ha.1,rX ha.2.1,Un ha.2.2]
 |ediv a n ih=>intro ha;simp only[IE.all]at ha;simp[IE.ae,ih ha]
 |emod a n ih=>intro ha;simp only[IE.all]at ha;simp[IE.ae,ih ha]
 |wrap k a ih=>intro ha;simp only[IE.all]at ha;simp[IE.ae,ih ha]
 |bits op k a b rW rX=>intro ha;simp only[IE.all,ao]at ha;simp[IE.ae,rW ha.1,rX ha.2]
 |_ a b rW rX=>intro ha;simp only[IE.all,ao]at ha;simp[IE.ae,rW ha.1,rX ha.2]
theorem BE.aq{p:Nat->Bool}{U ak:az}(h:∀k,p k=true->U k=ak k):∀ {e:BE},e.all p=true->e.ae U=e.ae ak:=by
 intro e;induction e with
 |v k=>intro ha;simp only[BE.all]at ha;simp[BE.ae,h k ha]
 |c n=>intro _;rfl
 |not a ih=>intro ha;simp only[BE.all]at ha;simp[BE.ae,ih ha]
 |si a=>intro ha;simp only[BE.all]at ha;simp[BE.ae,IE.aq h ha]
 |and a b rW rX=>intro ha;simp only[BE.all,ao]at ha;simp[BE.ae,rW ha.1,rX ha.2]
 |or a b rW rX=>intro ha;simp only[BE.all,ao]at ha;simp[BE.ae,rW ha.1,rX ha.2]
 |iff a b rW rX=>intro ha;simp only[BE.all,ao]at ha;simp[BE.ae,rW ha.1,rX ha.2]
 |lt a b=>intro ha;simp only[BE.all,ao]at ha;simp[BE.ae,IE.aq h ha.1,IE.aq h ha.2]
 |le a b=>intro ha;simp only[BE.all,ao]at ha;simp[BE.ae,IE.aq h ha.1,IE.aq h ha.2]
 |eq a b=>intro ha;simp only[BE.all,ao]at ha;simp[BE.ae,IE.aq h ha.1,IE.aq h ha.2]
structure bj(p:Nat->Bool)(U ak:az)(ph aH:Ph):Prop where
 e:∀k,p k=true->U k=ak k
 r:∀k,p k=true->ph.r k=aH.r k
 v:∀k,p k=true->ph.v k=aH.v k
variable {p:Nat->Bool}{U ak:az}{ph aH:Ph}
theorem c8.aq(h:bj p U ak ph aH):∀ {l:c8},l.all p=true->l.ae U ph=l.ae ak aH:=by
 intro l ha;cases l with
 |i k e=>simp only[c8.all]at ha;simp[c8.ae,IE.aq h.e ha]
 |b e=>simp only[c8.all]at ha;simp[c8.ae,BE.aq h.e ha]
 |s row=>simp only[c8.all]at ha;simp[c8.ae,Ph.val,h.v _ ha]
 |jH=>rfl
theorem c8.Bi{l:c8}:l.up.ae U ph=l.ae U ph:=by cases l<;>rfl
theorem ah.down_up{l:ah}{x:c8}(h:l.down=some x):l=x.up:=by
 cases l<;>simp_all[ah.down]<;>(subst h;rfl)
theorem ah.aq(h:bj p U ak ph aH):∀ {l:ah},l.all p=true->l.ae U ph=l.ae ak aH:=by
 intro l ha;cases l with
 |i k e=>simp only[ah.all]at ha;simp[ah.ae,IE.aq h.e ha]
 |b e=>simp only[ah.all]at ha;simp[ah.ae,BE.aq h.e ha]
 |p id off=>simp only[ah.all]at ha;simp[ah.ae,h.r _ ha]
 |ep row sz x j=>simp only[ah.all,ao]at ha;simp[ah.ae,h.v _ ha.1,IE.aq h.e ha.2]
 |pi id off sz n x=>simp only[ah.all,ao]at ha;simp[ah.ae,h.r _ ha.1,IE.aq h.e ha.2]
 |s row=>simp only[ah.all]at ha;simp[ah.ae,Ph.val,h.v _ ha]
 |jH=>rfl
 |QC=>rfl
 |f g=>rfl
 | fn g dg=>
   simp only[ah.all,List.all_eq_true]at ha;simp only[ah.ae];congr 2;exact List.map_congr_left fun c hc=>by
     unfold kJ;rw[h.r _ (ha c hc),h.v _ (ha c hc)]
 |fl e=>simp only[ah.all]at ha;simp[ah.ae,IE.aq h.e ha]
 |str bs=>rfl
 |QD=>rfl
 |EL=>rfl
 | bf g agg ls=>
   simp only[ah.all,List.all_eq_true]at ha;have e:ls.map (c8.ae U ph)=ls.map (c8.ae ak aH):=List.map_congr_left fun c hc=>c8.aq h (ha c hc)
   simp only[ah.ae,e]
 |vw row sz lo n=>simp only[ah.all,ao]at ha;simp[ah.ae,h.v _ ha.1,IE.aq h.e ha.2.1,IE.aq h.e ha.2.2]
 |cs row=>simp only[ah.all]at ha;simp[ah.ae,h.v _ ha]
 |bs id n sz=>simp only[ah.all]at ha;simp[ah.ae,h.r _ ha]
 |kb row bs=>simp only[ah.all]at ha;simp[ah.ae,Ph.val,h.v _ ha]
 |ab row m b=>simp only[ah.all]at ha;simp[ah.ae,h.v _ ha]
theorem jh(h:bj p U ak ph aH):∀ {ls:List ah},bh p ls=true->ls.map (ah.ae U ph)=ls.map (ah.ae ak aH):=by
 intro ls;induction ls with
 |nil=>intro _;rfl
 | cons l ls ih=>
   intro ha;simp only[bh,ao]at ha;simp only[List.map_cons,ah.aq h ha.1,ih ha.2]
theorem V1.aq(h:bj p U ak ph aH):∀ {x:V1},x.all p=true->x.ae U ph=x.ae ak aH:=by
 intro x ha;cases x with
 |one l=>exact ah.aq h ha
 |agg ls=>simp only[V1.all]at ha;simp only[V1.ae,jh h ha]
theorem Ab(h:bj p U ak ph aH):∀ {xs:List V1},dm p xs=true->xs.map (V1.ae U ph)=xs.map (V1.ae ak aH):=by
 intro ls;induction ls with
 |nil=>intro _;rfl
 | cons l ls ih=>
   intro ha;simp only[dm,ao]at ha;simp only[List.map_cons,V1.aq h ha.1,ih ha.2]
theorem SV.aq(h:bj p U ak ph aH):∀ {x:SV},x.all p=true->x.ae U ph=x.ae ak aH:=by
 intro x ha;cases x with
 |v x=>exact V1.aq h ha
 |ED xs=>simp only[SV.all]at ha;simp only[SV.ae,Ab h ha]
theorem aP.aq(h:bj p U ak ph aH){s:aP}(ha:s.all p=true):s.ae U ph=s.ae ak aH:=by
 simp only[aP.all,ao]at ha;simp only[aP.ae,BE.aq h.e ha.1,SV.aq h ha.2]
end Go.Sx
namespace Go.Sx
open Go.RowKit
def CK.val:CK->Int->Value
 |.i k,n=>.int k n
 |.b,n=>.bool (decide (n≠0))
 |.f,n=>.float .f64 n.toNat
def bL:List CK->Nat->List Int->List Value
 | [],_,_=>[]
 |k::ks,j,r=>k.val (r.getD j 0)::bL ks (j+1) r
def aA(ks:List CK):List (List Int)->List Value
 | []=>[]
 |r::rs=>bL ks 0 r++aA ks rs
theorem cg(ks:List CK):∀j r,(bL ks j r).length=ks.length:=by
 induction ks with
 |nil=>intro j r;rfl
 |cons k ks ih=>intro j r;simp[bL,ih]
theorem gZ(ks:List CK):∀(j0:Nat) (r:List Int) (j:Nat),(bL ks j0 r)[j]?=(ks[j]?).map fun k=>k.val (r.getD (j0+j) 0):=by
 induction ks with
 |nil=>intro j0 r j;simp[bL]
 | cons k ks ih=>
   intro j0 r j;cases j with
   |zero=>simp[bL]
   | succ j=>
     simp only[bL,List.getElem?_cons_succ,ih];rw[show j0+1+j=j0+(j+1)by omega]
theorem bM(ks:List CK)(xs:List (List Int)):(aA ks xs).length=xs.length*ks.length:=by
 induction xs with
 |nil=>simp[aA]
 |cons r rs ih=>simp[aA,cg,ih,Nat.add_mul,Nat.add_comm]
theorem kK(ks:List CK)(xs ys:List (List Int)):aA ks (xs++ys)=aA ks xs++aA ks ys:=by
 induction xs with
 |nil=>rfl
 |cons r rs ih=>simp[aA,ih]
theorem lg(ks:List CK):∀(xs:List (List Int)) (i j:Nat),i<xs.length->j<ks.length->
   (aA ks xs)[i*ks.length+j]?=(ks[j]?).map fun k=>k.val ((xs.getD i []).getD j 0):=by
 intro xs;induction xs with
 |nil=>intro i j hi;simp at hi
 | cons r rs ih=>
   intro i j hi hj;cases i with
   | zero=>
     simp only[aA,Nat.zero_mul,Nat.zero_add];rw[List.getElem?_append_left (by rw[cg];exact hj),gZ]
     simp
   | succ i=>
     simp only[aA];rw[List.getElem?_append_right (by rw[cg,Nat.add_mul];omega),cg]
     have e:(i+1)*ks.length+j-ks.length=i*ks.length+j:=by rw[Nat.add_mul];omega
     rw[e,ih i j (by simpa using hi) hj]
     simp
theorem CK.mN(k:CK)(n:Int):(k.val n).oneCell'=true:=by cases k<;>rfl
theorem hO(ks:List CK)(xs:List (List Int)):∀u∈aA ks xs,u.oneCell'=true:=by
 have bc:∀(ks:List CK) j r,∀u∈bL ks j r,u.oneCell'=true:=by
   intro ks;induction ks with
   |nil=>intro j r u hu;simp[bL]at hu
   | cons k ks ih=>
     intro j r u hu;simp only[bL,bq]at hu;rcases hu with rfl|hu
     . exact CK.mN _ _
     . exact ih _ _ u hu
 induction xs with
 |nil=>intro u hu;simp[aA]at hu
 | cons r rs ih=>
   intro u hu;simp only[aA,List.mem_append]at hu;rcases hu with hu|hu
   . exact bc _ _ _ u hu
   . exact ih u hu
def Reads(w:World)(v:Value)(n:Nat)(cells:List Value):Prop:=
 ∃base cap,v = .slice base n cap/\(n<=maxLen/\n<=cap)/\(base=none->n=0/\cap=0)/\∀j u,cells[j]?=some u->∃a,base=some a/\w.cell? (a.add j)=some u
theorem nq{w:World}{B:Nat}{e:TypeId}{sz:Nat}{v:Value}{n:Nat}{xs:List Value}(h:w.ownsRow B e sz v n xs):Reads w v n xs:=by
 have h':=h;obtain⟨hl,⟨rfl,rfl⟩|⟨g,cap,cur,rfl,hg,hh,hn,hc,hs,ht⟩⟩:=h
 . refine⟨none,0,rfl,⟨Nat.zero_le _,Nat.zero_le _⟩,fun _=>⟨rfl,rfl⟩,fun j u hj=>?_⟩
   rw[Nat.zero_mul]at hl;rw[List.eq_nil_of_length_eq_zero hl]at hj;simp at hj
 . refine⟨some ⟨g,0,none⟩,cap,rfl,⟨Nat.le_trans hn hc,hn⟩,fun h=>by simp at h,fun j u hj=>⟨_,rfl,?_⟩⟩
   exact h'.cells (by simp[Value.ownBlock]) j u hj
def fE(B:Nat)(U:az)(ph:Ph)(r:Row)(w:World):Prop:=
 0<r.ks.length/\
 (if r.own then w.ownsRow B r.e r.ks.length (ph.val r.id) (U r.lv).list.length (aA r.ks (U r.lv).list)
  else Reads w (ph.val r.id) (U r.lv).list.length (aA r.ks (U r.lv).list))
theorem fE.reads{B:Nat}{U:az}{ph:Ph}{r:Row}{w:World}(h:fE B U ph r w) :
   Reads w (ph.val r.id) (U r.lv).list.length (aA r.ks (U r.lv).list):=by
 obtain⟨_,h⟩:=h;split at h
 . exact nq h
 . exact h
def Row.bQ(U:az)(ph:Ph)(r:Row):Option Nat:=if r.own||decide ((U r.lv).list.length≠0)then(ph.val r.id).ownBlock else none
theorem fE.rm{B:Nat}{U:az}{ph:Ph}{r:Row}{w:World}(h:fE B U ph r w){k:Nat}(hk:r.bQ U ph=some k):k<w.heap.size:=by
 obtain⟨h0,h⟩:=h;unfold Row.bQ at hk;split at hk
 . rename_i hc;split at h
   . exact(h.lt k hk).2
   . rename_i ho;have cx:(U r.lv).list.length≠0:=by simpa[ho]using hc
     obtain⟨base,cap,hv,_,_,iu⟩:=h;have hl:=bM r.ks (U r.lv).list;have lh:0<(aA r.ks (U r.lv).list).length:=by rw[hl];exact Nat.mul_pos (by omega) h0
     obtain⟨a,rfl,ha⟩:=iu 0 _ (dJ lh);rw[hv]at hk;simp only[Value.ownBlock,af]at hk;have:=World.block_lt_of_cell? w (a.add 0) ha;rw[Addr.add_zero']at this;omega
 . cases hk
def sj(B:Nat)(U:az)(ph:Ph)(b:gC)(w:World):Prop:=
 B<=ph.r b.id/\w.heap[ph.r b.id]?=some (.cells (b.cells.map (ah.ae U ph)).toArray b.ty (0,0))
structure iW(B:Nat)(U:az)(ph:Ph)(aT:List gC)(rows:List Row)(w:World):Prop where
 lQ:∀b∈aT,sj B U ph b w
 bb:∀b∈aT,∀b'∈aT,b.id≠b'.id->ph.r b.id≠ph.r b'.id
 row:∀r∈rows,r.g.ae U=true->fE B U ph r w
 br:∀b∈aT,∀r∈rows,r.g.ae U=true->r.bQ U ph≠some (ph.r b.id)
 rr:∀r∈rows,∀r'∈rows,r.id≠r'.id->r.own=true->r.g.ae U=true->r'.g.ae U=true->∀k,r.bQ U ph=some k->r'.bQ U ph≠some k
def fj(U:az)(ph:Ph)(ts:List (Option aP))(tmps:Array Value):Prop:=
 ts.length=tmps.size/\∀(t:Nat) (s:aP),ts[t]?=some (some s)->tmps[t]?=some (s.ae U ph)
structure xc(st:St):Prop where
 tmps:∀(t:Nat) (s:aP),st.tmps[t]?=some (some s)->s.all st.has=true
 aT:∀b∈st.aT,b.all st.has=true
 rows:∀r∈st.rows,r.all st.has=true
def po(z:Nat->Prop)(w:World)(nk:NK)(h:Int)(xs:List Int)(v:Value):Prop:=
 match nk with
 |.c k=>v=k.val h
 |.s _ k=>h=(xs.length:Int)/\Reads w v xs.length (aA [k] (xs.map fun x=>[x]))/\(xs≠[]->∀b,v.ownBlock=some b->z b)
def pQ(z:Nat->Prop)(w:World)(aK:List NK)(v:Value)(xs:List (List Int)):Prop:=
 ∃base cap,v = .slice base xs.length cap/\xs.length<=maxLen/\(base=none->xs.length=0/\cap=0)/\
   ∀i r,xs[i]?=some r->∃a,base=some a/\z a.block/\∀j nk,aK[j]?=some nk->∃u,w.cell? (a.add (i*aK.length+j))=some u/\po z w nk (r.getD j 0) (dK aK r j) u
def Bj(z:Nat->Prop)(w:World)(B:Nat)(e:TypeId)(aK:List NK)(v:Value)(xs:List (List Int)):Prop:=
 ∃cs:List Value,w.ownsRow B e aK.length v xs.length cs/\∀i r,xs[i]?=some r->∀j nk,aK[j]?=some nk->∃u,cs[i*aK.length+j]?=some u/\po z w nk (r.getD j 0) (dK aK r j) u
def YX(U:az)(ph:Ph)(n:dG):Prop:=
 ∃base cap,ph.val n.id = .slice base (U n.lv).list.length cap/\(U n.lv).list.length<=maxLen/\(base=none->(U n.lv).list.length=0/\cap=0)
theorem vv{w w':World}{a:Addr}(h:w'.heap[a.block]?=w.heap[a.block]?):w'.cell? a=w.cell? a:=by
 unfold World.cell?;rw[h]
theorem ji(a:Addr)(j:Nat):(a.add j).block=a.block:=by unfold Addr.add;split<;>rfl
theorem Reads.lk{w w':World}{v:Value}{n:Nat}{cells:List Value}(h:Reads w v n cells)(hz:cells≠[]->∀b,v.ownBlock=some b->w'.heap[b]?=w.heap[b]?):Reads w' v n cells:=by
 obtain⟨base,cap,rfl,hn,h0,hc⟩:=h;refine⟨base,cap,rfl,hn,h0,fun j u hj=>?_⟩
 obtain⟨a,rfl,ha⟩:=hc j u hj;refine⟨a,rfl,?_⟩;have hb:w'.heap[(a.add j).block]?=w.heap[(a.add j).block]? :=by
   rw[ji];exact hz (by intro e;rw[e]at hj;simp at hj) _ (by simp[Value.ownBlock])
 rw[vv hb];exact ha
theorem po.lk{z z':Nat->Prop}{w w':World}{nk:NK}{h:Int}{xs:List Int}{v:Value}(hz:∀k,z k->w'.heap[k]?=w.heap[k]?)(GA:∀k,z k->z' k)(hc:po z w nk h xs v):po z' w' nk h xs v:=by
 cases nk with
 |c k=>exact hc
 | s e k=>
   obtain⟨h1,h2,h3⟩:=hc;have ne:aA [k] (xs.map fun x=>[x])≠[]->xs≠[]:=fun cx e=>cx (by subst e;rfl)
   exact⟨h1,h2.lk fun cx b hb=>hz _ (h3 (ne cx) b hb),fun cx b hb=>GA _ (h3 cx b hb)⟩
theorem pQ.lk{z z':Nat->Prop}{w w':World}{aK:List NK}{v:Value}{xs:List (List Int)}(hz:∀k,z k->w'.heap[k]?=w.heap[k]?)(GA:∀k,z k->z' k)(h:pQ z w aK v xs):pQ z' w' aK v xs:=by
 obtain⟨base,cap,hv,hn,h0,hc⟩:=h;refine⟨base,cap,hv,hn,h0,fun i r hi=>?_⟩
 obtain⟨a,e,hza,iu⟩:=hc i r hi;refine⟨a,e,GA _ hza,fun j nk hj=>?_⟩
 obtain⟨u,hu,sJ⟩:=iu j nk hj;have hb:w'.heap[(a.add (i*aK.length+j)).block]?=w.heap[(a.add (i*aK.length+j)).block]? :=by
   rw[ji];exact hz _ hza
 exact⟨u,by rw[vv hb];exact hu,sJ.lk hz GA⟩
theorem Bj.reads{z z':Nat->Prop}{w:World}{B:Nat}{e:TypeId}{aK:List NK}{v:Value}{xs:List (List Int)}(h0:0<aK.length)(h:Bj z w B e aK v xs)(hz:∀k,z k->z' k)(ho:∀k,v.ownBlock=some k->z' k):pQ z' w aK v xs:=by
 obtain⟨cs,bG,hc⟩:=h;have h':=bG;obtain⟨hl,⟨rfl,hn⟩|⟨g,cap,cur,rfl,hg,hh,hn,KA,hs,ht⟩⟩:=bG
 . refine⟨none,0,by rw[hn],by rw[hn];exact Nat.zero_le _,fun _=>⟨hn,rfl⟩,fun i r hi=>?_⟩
   rw[List.eq_nil_of_length_eq_zero hn]at hi;simp at hi
 . refine⟨some ⟨g,0,none⟩,cap,rfl,Nat.le_trans hn KA,fun h=>by simp at h,fun i r hi=>⟨_,rfl,ho g (by simp[Value.ownBlock]),fun j nk hj=>?_⟩⟩
   obtain⟨u,hu,sJ⟩:=hc i r hi j nk hj;exact⟨u,h'.cells (by simp[Value.ownBlock]) _ _ hu,sJ.lk (fun _ _=>rfl) hz⟩
theorem Bj.lk{z z':Nat->Prop}{w w':World}{B:Nat}{e:TypeId}{aK:List NK}{v:Value}{xs:List (List Int)}(h:Bj z w B e aK v xs)(hz:∀k,z k->w'.heap[k]?=w.heap[k]?)(GA:∀k,z k->z' k)(ho:∀k,v.ownBlock=some k->w'.heap[k]?=w.heap[k]?):Bj z' w' B e aK v xs:=by
 obtain⟨cs,bG,hc⟩:=h;refine⟨cs,?_,fun i r hi j nk hj=>?_⟩
 . obtain⟨hl,hr⟩:=bG;refine⟨hl,hr.imp (fun x=>x) ?_⟩
   rintro⟨g,cap,cur,hv,hg,hh,xd⟩;exact⟨g,cap,cur,hv,hg,by rw[ho g (by rw[hv];rfl)];exact hh,xd⟩
 . obtain⟨u,hu,sJ⟩:=hc i r hi j nk hj;exact⟨u,hu,sJ.lk hz GA⟩
def eU(B:Nat)(U:az)(ph:Ph)(n:dG)(w:World):Prop:=
 if n.own then Bj (fun k=>ph.z k/\B<=k) w B n.e n.aK (ph.val n.id) (U n.lv).list else pQ ph.z w n.aK (ph.val n.id) (U n.lv).list
structure da(B:Nat)(U:az)(ph:Ph)(st:St)(w:World):Prop where
 lt:∀k,ph.z k->k<w.heap.size
 bz:∀b∈st.aT,¬ ph.z (ph.r b.id)
 rz:∀r∈st.rows,r.own=true->r.g.ae U=true->∀k,r.bQ U ph=some k->¬ ph.z k
 rd:∀n∈st.aY,n.g.ae U=true->0<n.aK.length/\eU B U ph n w
 nm:∀n∈st.aY,n.all st.has=true
 oz:∀n∈st.aY,n.own=true->n.g = .c true/\∀k,(ph.val n.id).ownBlock=some k->¬ ph.z k/\(∀b∈st.aT,ph.r b.id≠k)/\(∀r∈st.rows,r.g.ae U=true->r.bQ U ph≠some k)/\∀n'∈st.aY,n'.own=true->n'.id≠n.id->(ph.val n'.id).ownBlock≠some k
theorem da.own{B:Nat}{U:az}{ph:Ph}{st:St}{w:World}(h:da B U ph st w){n:dG}(hn:n∈st.aY)(ho:n.own=true):n.g = .c true/\0<n.aK.length/\Bj (fun k=>ph.z k/\B<=k) w B n.e n.aK (ph.val n.id) (U n.lv).list:=by
 have hg:=(h.oz n hn ho).1;obtain⟨h0,h1⟩:=h.rd n hn (by rw[hg];rfl)
 unfold eU at h1;rw[if_pos ho]at h1;exact⟨hg,h0,h1⟩
theorem da.nu{B:Nat}{U:az}{ph:Ph}{st:St}{w:World}(h:da B U ph st w){n:dG}(hn:n∈st.aY)(ho:n.own=true){k:Nat}(hk:(ph.val n.id).ownBlock=some k):B<=k/\k<w.heap.size:=by
 obtain⟨_,_,cs,bG,_⟩:=h.own hn ho;exact bG.lt k hk
theorem da.reads{B:Nat}{U:az}{ph:Ph}{st:St}{w:World}(h:da B U ph st w){n:dG}(hn:n∈st.aY)(hg:n.g.ae U=true):0<n.aK.length/\pQ (fun k=>k<w.heap.size) w n.aK (ph.val n.id) (U n.lv).list:=by
 obtain⟨h0,h1⟩:=h.rd n hn hg;refine⟨h0,?_⟩;unfold eU at h1;split at h1
 . exact h1.reads h0 (fun k hk=>h.lt k hk.1) (fun k hk=>(h.nu hn (by assumption) hk).2)
 . exact h1.lk (fun _ _=>rfl) h.lt
theorem da.YY{B:Nat}{U:az}{ph:Ph}{st:St}{w:World}(h:da B U ph st w):∀n∈st.aY,n.g.ae U=true->YX U ph n/\0<n.aK.length:=fun n hn hg=>by
 obtain⟨h0,base,cap,hv,hl,hb,_⟩:=h.reads hn hg;exact⟨⟨base,cap,hv,hl,hb⟩,h0⟩
structure Sat(w0:World)(U:az)(ph:Ph)(st:St)(a:Act)(w:World):Prop where
 tmps:fj U ph st.tmps a.tmps
 mem:iW w0.heap.size U ph st.aT st.rows w
 below:Below w0.heap.size w0 w
 defers:a.defers=[]
 names:xc st
 nest:da w0.heap.size U ph st w
theorem iW.congr{B:Nat}{p:Nat->Bool}{U ak:az}{ph aH:Ph}(hg:bj p U ak ph aH){aT:List gC}{rows:List Row}{w:World}
   (hb:∀b∈aT,b.all p=true) (hr:∀r∈rows,r.all p=true) (h:iW B U ph aT rows w):iW B ak aH aT rows w:=by
 have eb:∀b∈aT,ph.r b.id=aH.r b.id/\b.cells.map (ah.ae U ph)=b.cells.map (ah.ae ak aH):=fun b hm=>by
   have:=hb b hm;simp only[gC.all,ao]at this;exact⟨hg.r _ this.1,jh hg this.2⟩
 have er:∀r∈rows,ph.val r.id=aH.val r.id/\U r.lv=ak r.lv/\r.g.ae U=r.g.ae ak:=fun r hm=>by
   have:=hr r hm;simp only[Row.all,ao]at this;exact⟨by simp only[Ph.val,hg.v _ this.1],hg.e _ this.2.1,BE.aq hg.e this.2.2⟩
 refine⟨fun b hm=>?_,fun b hm b' jL cx=>?_,fun r hm h1=>?_,fun b hm r jL h1=>?_,fun r hm r' jL cx ho h1 h2=>?_⟩
 . have:=h.lQ b hm;unfold sj at *;rw[<- (eb b hm).1,<- (eb b hm).2];exact this
 . rw[<- (eb b hm).1,<- (eb b' jL).1];exact h.bb b hm b' jL cx
 . obtain⟨e1,e2,e3⟩:=er r hm;have:=h.row r hm (by rw[e3];exact h1)
   unfold fE at *;rw[<- e1,<- e2];exact this
 . obtain⟨e1,e2,e3⟩:=er r jL;have:=h.br b hm r jL (by rw[e3];exact h1)
   unfold Row.bQ at *;rw[<- e1,<- e2,<- (eb b hm).1];exact this
 . obtain⟨e1,e2,e3⟩:=er r hm;obtain⟨f1,f2,f3⟩:=er r' jL;have hf:r.bQ ak aH=r.bQ U ph:=by unfold Row.bQ;rw[e1,e2]
   have zd:r'.bQ ak aH=r'.bQ U ph:=by unfold Row.bQ;rw[f1,f2]
   rw[hf,zd];exact h.rr r hm r' jL cx ho (by rw[e3];exact h1) (by rw[f3];exact h2)
theorem da.congr{B:Nat}{U ak:az}{ph aH:Ph}{st:St}{w:World}(h:da B U ph st w)(hg:bj st.has U ak ph aH)(hz:aH.z=ph.z)
   (hb:∀b∈st.aT,b.all st.has=true) (hr:∀r∈st.rows,r.all st.has=true):da B ak aH st w:=by
 have en:∀n∈st.aY,aH.val n.id=ph.val n.id/\ak n.lv=U n.lv/\n.g.ae ak=n.g.ae U:=fun n hn=>by
   have:=h.nm n hn;simp only[dG.all,ao]at this;exact⟨by simp only[Ph.val,hg.v _ this.1],(hg.e _ this.2.1).symm,(BE.aq hg.e this.2.2).symm⟩
 have er:∀r∈st.rows,r.bQ ak aH=r.bQ U ph/\r.g.ae ak=r.g.ae U:=fun r hm=>by
   have:=hr r hm;simp only[Row.all,ao]at this;refine⟨?_,(BE.aq hg.e this.2.2).symm⟩;unfold Row.bQ;rw[hg.e _ this.2.1];simp only[Ph.val,hg.v _ this.1]
 have eb:∀b∈st.aT,aH.r b.id=ph.r b.id:=fun b hm=>by
   have:=hb b hm;simp only[gC.all,ao]at this;exact(hg.r _ this.1).symm
 refine⟨fun k hk=>h.lt k (by rw[<- hz];exact hk),fun b hm=>?_,fun r hm ho h1 k hk=>?_,fun n hm h1=>?_,h.nm,fun n hm ho=>?_⟩
 . rw[hz,eb b hm];exact h.bz b hm
 . rw[hz];exact h.rz r hm ho (by rw[<- (er r hm).2];exact h1) k (by rw[<- (er r hm).1];exact hk)
 . obtain⟨e1,e2,e3⟩:=en n hm;have:=h.rd n hm (by rw[<- e3];exact h1)
   unfold eU at *;rw[hz,e1,e2];exact this
 . obtain⟨e1,e2,e3⟩:=en n hm;obtain⟨h1,h2⟩:=h.oz n hm ho;refine⟨h1,fun k hk=>?_⟩
   rw[e1]at hk;obtain⟨g1,g2,g3,g4⟩:=h2 k hk;refine⟨by rw[hz];exact g1,fun b Ac=>by rw[eb b Ac];exact g2 b Ac,fun r QE gn=>?_,fun n' jL ow cx=>?_⟩
   . rw[(er r QE).1];exact g3 r QE (by rw[<- (er r QE).2];exact gn)
   . rw[(en n' jL).1];exact g4 n' jL ow cx
theorem Sat.congr{w0:World}{U ak:az}{ph aH:Ph}{st:St}{a:Act}{w:World}(h:Sat w0 U ph st a w)(hg:bj st.has U ak ph aH)(hz:aH.z=ph.z:=by rfl):Sat w0 ak aH st a w:=by
 refine⟨⟨h.tmps.1,fun t s ht=>?_⟩,h.mem.congr hg h.names.aT h.names.rows,h.below,h.defers,h.names,h.nest.congr hg hz h.names.aT h.names.rows⟩
 rw[<- aP.aq hg (h.names.tmps t s ht)];exact h.tmps.2 t s ht
theorem iW.Bk{B:Nat}{U:az}{ph:Ph}{aT:List gC}{rows:List Row}{w:World}(h:iW B U ph aT rows w){b:gC}(hm:b∈aT):ph.r b.id<w.heap.size:=by
 have:=(h.lQ b hm).2;exact(Array.getElem?_eq_some_iff.1 this).1
theorem sK{k:IntKind}{n:Int}(h:k.min<=n/\n<=k.max):k.wrap n=n:=by
 obtain⟨h1,h2⟩:=h;cases k<;>simp[IntKind.wrap,IntKind.min,IntKind.max,IntKind.signed,IntKind.bits]at * <;>omega
theorem vx(x:Int):(BitVec.ofInt 64 x).toNat=(x%18446744073709551616).toNat:=by
 rw[BitVec.toNat_ofInt];rfl
theorem CX(k:IntKind)(hk:k = .i64\/k = .u64)(x:Int)(m:Nat)(hm:m<=62) :
   Go.bits .and k x (((2 ^ m:Nat):Int)-1)=x%((2 ^ m:Nat):Int):=by
 have lh:0<2 ^ m:=Nat.two_pow_pos m;have hle:2 ^ m<=2 ^ 62:=Nat.pow_le_pow_right (by decide) hm
 have e1:(BitVec.ofInt 64 (((2 ^ m:Nat):Int)-1)).toNat=2 ^ m-1:=by
   rw[vx];generalize 2 ^ m=q at *;have:((q:Int)-1)%18446744073709551616=(q:Int)-1:=Int.emod_eq_of_lt (by omega) (by simp at hle;omega)
   rw[this];omega
 have e2:(BitVec.ofInt 64 x &&& BitVec.ofInt 64 (((2 ^ m:Nat):Int)-1)).toNat=(x%18446744073709551616).toNat%2 ^ m:=by
   rw[BitVec.toNat_and,e1,Nat.and_two_pow_sub_one_eq_mod,vx]
 have e3:(((x%18446744073709551616).toNat%2 ^ m:Nat):Int)=x%((2 ^ m:Nat):Int):=by
   have h0:0<=x%18446744073709551616:=Int.emod_nonneg _ (by decide)
   rw[Int.natCast_emod,Int.toNat_of_nonneg h0];apply Int.emod_emod_of_dvd;have:(18446744073709551616:Int)=((2 ^ 64:Nat):Int):=by decide
   rw[this];exact Int.natCast_dvd_natCast.2 (Nat.pow_dvd_pow 2 (by omega))
 have cQ:(x%18446744073709551616).toNat%2 ^ m<2 ^ m:=Nat.mod_lt _ lh;have hw:∀n:Nat,n<2 ^ 62->k.wrap (n:Int)=n:=by
   intro n hn;apply sK;rcases hk with rfl|rfl<;>simp[IntKind.min,IntKind.max,IntKind.signed,IntKind.bits]at * <;>omega
 rcases hk with rfl|rfl
 . show IntKind.i64.wrap ((BitVec.ofInt 64 x &&& BitVec.ofInt 64 (((2 ^ m:Nat):Int)-1)).toNat:Int)=_;rw[e2,hw _ (by omega),e3]
 . show IntKind.u64.wrap ((BitVec.ofInt 64 x &&& BitVec.ofInt 64 (((2 ^ m:Nat):Int)-1)).toNat:Int)=_;rw[e2,hw _ (by omega),e3]
theorem vy:∀ {f:Nat} {n:Int} {m:Nat},xe f n=some m->m<f/\n=((2 ^ m:Nat):Int)-1:=by
 intro f;induction f with
 |zero=>intro n m h;simp[xe]at h
 | succ f ih=>
   intro n m h;unfold xe at h;split at h
   . rename_i he;simp only[af]at h;subst h;exact⟨by omega,by omega⟩
   . obtain⟨h1,h2⟩:=ih h;exact⟨by omega,h2⟩
section
variable {U:az}{ph:Ph}
theorem iX{wr:Bool}{k:IntKind}{e:IE}(hn:∀n∈(arith wr k e).1,n.ae U=true):(arith wr k e).2.ae U ph = .int k (k.wrap (e.ae U)):=by
 rw[<- IE.cf U e];unfold arith at hn ⊢;generalize e.mk=e' at *;unfold KB at hn ⊢;split at hn
 . rfl
 . cases wr
   . exact(congrArg (Value.int k) (sK (QB (hn _ (List.mem_singleton.2 rfl)))).symm)
   . rfl
end
end Go.Sx
namespace Go.Sx
open Go.RowKit
variable {U:az}{ph:Ph}{P:Program}{w:World}
theorem GB(k yk:IntKind)(x y:Int)(t:TypeId)(h0:0<=y)(h1:y<=k.bits):(binOp .shl t (.int k x) (.int yk y)).run P w = .ok (.int k (k.wrap (x*2 ^ y.toNat))) w:=by
 rw[binOp_shl,shift_shl k yk x y h0 h1];rfl
theorem GC(k yk:IntKind)(x y:Int)(t:TypeId)(h0:0<=y)(h1:y<=k.bits):(binOp .shr t (.int k x) (.int yk y)).run P w = .ok (.int k (x/2 ^ y.toNat)) w:=by
 rw[binOp_shr,shift_shr k yk x y h0 h1];rfl
theorem QF(k:IntKind)(x y:Int)(t:TypeId)(h:y≠0):(binOp .quo t (.int k x) (.int k y)).run P w = .ok (.int k (k.wrap (x.tdiv y))) w:=by
 rw[binOp_quo];simp[Op.intDiv,h]
theorem QG(k:IntKind)(x y:Int)(t:TypeId)(h:y≠0):(binOp .rem t (.int k x) (.int k y)).run P w = .ok (.int k (x.tmod y)) w:=by
 rw[binOp_rem];simp[Op.intDiv,h]
theorem GD{e:IE}(h:((BE.si e).mk).ae U=true):e.ae U≠0:=by
 rw[BE.cf]at h;simpa[BE.ae]using h
theorem bS{a b:IE}(h:((BE.le a b).mk).ae U=true):a.ae U<=b.ae U:=by
 rw[BE.cf]at h;simpa[BE.ae]using h
theorem eM{a b:IE}(h:((BE.lt a b).mk).ae U=true):a.ae U<b.ae U:=by
 rw[BE.cf]at h;simpa[BE.ae]using h
theorem xf{wr:Bool}{op:BinOp}{l1 l2 l:ah}{ns:List BE}(t:TypeId)(x y:Operand)(h:KC wr op l1 l2=some (ns,l))(hn:∀n∈ns,n.ae U=true) :
   (do eqGuard op t x y (l1.ae U ph) (l2.ae U ph);binOp op t (l1.ae U ph) (l2.ae U ph):Sem Value).run P w = .ok (l.ae U ph) w:=by
 have go:∀(k:IntKind) (a:IE) (v:Value),(binOp op t (.int k (a.ae U)) (l2.ae U ph)).run P w = .ok v w->l1 = .i k a->v=l.ae U ph->
     (do eqGuard op t x y (l1.ae U ph) (l2.ae U ph);binOp op t (l1.ae U ph) (l2.ae U ph):Sem Value).run P w = .ok (l.ae U ph) w:=by
   intro k a v hr hl hv;subst hl;rw[<- hv,<- hr];show Sem.run P (do eqGuard op t x y (.int k (a.ae U)) (l2.ae U ph);binOp op t (.int k (a.ae U)) (l2.ae U ph)) w=_
   rw[eqGuard_at_int];rfl
 unfold KC at h;split at h
 . rename_i k a _ n;split at h
   . rename_i hc;obtain⟨h0,h1,h2⟩:=hc;simp only[af]at h;have h':arith wr k (.mul a (.c ((2 ^ n.toNat:Nat):Int)))=(ns,l):=h;have:=iX (U:=U) (ph:=ph) (wr:=wr) (k:=k) (e:=.mul a (.c ((2 ^ n.toNat:Nat):Int))) (by rw[h'];exact hn)
     rw[h']at this;refine go k a _ (GB k _ _ n t h0 h2) rfl ?_;rw[this];simp[IE.ae]
   . cases h
 . rename_i k a _ b _;simp only[af,ax]at h;obtain⟨rfl,rfl⟩:=h;have h0:=bS (hn _ (aO ..));have h1:=bS (hn _ (bp _ (aO ..)));have:=iX (U:=U) (ph:=ph) (wr:=wr) (k:=k) (e:=.shl a b) (fun n hm=>hn n (bp _ (bp _ hm)))
   exact go k a _ (GB k _ _ _ t h0 h1) rfl this.symm
 . rename_i k a _ n;split at h
   . rename_i hc;obtain⟨h0,h1,h2⟩:=hc;simp only[af,ax]at h;obtain⟨rfl,rfl⟩:=h;refine go k a _ (GC k _ _ n t h0 h2) rfl ?_;simp only[ah.ae,IE.cf];simp[IE.ae]
   . cases h
 . rename_i k a _ b _;simp only[af,ax]at h;obtain⟨rfl,rfl⟩:=h;have h0:=bS (hn _ (aO ..));have h1:=bS (hn _ (bp _ (aO ..)));refine go k a _ (GC k _ _ _ t h0 h1) rfl ?_;simp only[ah.ae,IE.cf];simp[IE.ae]
 . rename_i k a k' b;split at h
   . rename_i hk;subst hk;simp only[af]at h;have h':arith wr k (.add a b)=(ns,l):=h;have:=iX (U:=U) (ph:=ph) (wr:=wr) (k:=k) (e:=.add a b) (by rw[h'];exact hn)
     rw[h']at this;exact go k a _ (by simp[ah.ae,binOp_add,Op.intArith];rfl) rfl this.symm
   . cases h
 . rename_i k a k' b;split at h
   . rename_i hk;subst hk;simp only[af]at h;have h':arith wr k (.sub a b)=(ns,l):=h;have:=iX (U:=U) (ph:=ph) (wr:=wr) (k:=k) (e:=.sub a b) (by rw[h'];exact hn)
     rw[h']at this;exact go k a _ (by simp[ah.ae,binOp_sub,Op.intArith];rfl) rfl this.symm
   . cases h
 . rename_i k a k' b;split at h
   . rename_i hk;subst hk;simp only[af]at h;have h':arith wr k (.mul a b)=(ns,l):=h;have:=iX (U:=U) (ph:=ph) (wr:=wr) (k:=k) (e:=.mul a b) (by rw[h'];exact hn)
     rw[h']at this;exact go k a _ (by simp[ah.ae,binOp_mul,Op.intArith];rfl) rfl this.symm
   . cases h
 . rename_i k a k' b;split at h
   . rename_i hk;subst hk;simp only[af,ax]at h;obtain⟨rfl,rfl⟩:=h;have h0:=GD (hn _ (aO ..));have:=iX (U:=U) (ph:=ph) (wr:=wr) (k:=k) (e:=.tdiv a b) (fun n hm=>hn n (bp _ hm))
     exact go k a _ (QF k _ _ t h0) rfl this.symm
   . cases h
 . rename_i k a k' b;split at h
   . rename_i hk;subst hk;simp only[af,ax]at h;obtain⟨rfl,rfl⟩:=h;have h0:=GD (hn _ (aO ..));refine go k a _ (QG k _ _ t h0) rfl ?_;simp only[ah.ae,IE.cf];simp[IE.ae]
   . cases h
 . rename_i k a k' n;split at h
   . rename_i hk;subst hk;have hand:∀(k:IntKind) (a b:Int),(binOp .and t (.int k a) (.int k b)).run P w = .ok (.int k (Go.bits .and k a b)) w:=fun k a b=>by rw[binOp_and,intBits_and];rfl
     split at h
     . rename_i m hm;simp only[af,ax]at h;obtain⟨rfl,rfl⟩:=h;obtain⟨wx,EE⟩:=vy hm;refine go _ a _ (hand _ _ _) rfl ?_;rw[EE];simp only[IE.ae];rw[CX _ (.inl rfl) _ m (by omega)]
       simp only[ah.ae,IE.cf];simp[IE.ae]
     . rename_i m hm;simp only[af,ax]at h;obtain⟨rfl,rfl⟩:=h;obtain⟨wx,EE⟩:=vy hm;refine go _ a _ (hand _ _ _) rfl ?_;rw[EE];simp only[IE.ae];rw[CX _ (.inr rfl) _ m (by omega)]
       simp only[ah.ae,IE.cf];simp[IE.ae]
     . simp only[af,ax]at h;obtain⟨rfl,rfl⟩:=h;refine go _ a _ (hand _ _ _) rfl ?_;simp only[ah.ae,IE.cf];simp[IE.ae]
   . cases h
 . rename_i k a k' b _;split at h
   . rename_i hk;subst hk;simp only[af,ax]at h;obtain⟨rfl,rfl⟩:=h;refine go k a (.int k (Go.bits .and k (a.ae U) (b.ae U))) (by simp only[ah.ae,binOp_and,intBits_and];rfl) rfl ?_
     simp only[ah.ae,IE.cf];rfl
   . cases h
 . rename_i k a k' b;split at h
   . rename_i hk;subst hk;simp only[af,ax]at h;obtain⟨rfl,rfl⟩:=h;refine go k a (.int k (Go.bits .or k (a.ae U) (b.ae U))) (by simp only[ah.ae,binOp_or,intBits_or];rfl) rfl ?_
     simp only[ah.ae,IE.cf];rfl
   . cases h
 . rename_i k a k' b;split at h
   . rename_i hk;subst hk;simp only[af,ax]at h;obtain⟨rfl,rfl⟩:=h;refine go k a (.int k (Go.bits .xor k (a.ae U) (b.ae U))) (by simp only[ah.ae,binOp_xor,intBits_xor];rfl) rfl ?_
     simp only[ah.ae,IE.cf];rfl
   . cases h
 . rename_i k a k' b;split at h
   . rename_i hk;subst hk;simp only[af,ax]at h;obtain⟨rfl,rfl⟩:=h;refine go k a (.int k (Go.bits .andNot k (a.ae U) (b.ae U))) (by simp only[ah.ae,binOp_andNot,intBits_andNot];rfl) rfl ?_
     simp only[ah.ae,IE.cf];rfl
   . cases h
 all_goals first
   |cases h;done
   | (rename_i k a k' b
      split at h
      . rename_i hk;subst hk;simp only[af,ax]at h;obtain⟨rfl,rfl⟩:=h;refine go k a (.bool _) (by simp only[ah.ae,binOp_lss,binOp_leq,binOp_gtr,binOp_geq,binOp_eql,binOp_neq];rfl) rfl ?_
        simp only[ah.ae,BE.cf,BE.ae]
        try first|rfl|(rw[Bool.eq_iff_iff];simp;done)|(simp[bne];rw[Bool.eq_iff_iff];simp;done)
      . cases h)
end Go.Sx
namespace Go.Sx
open Go.RowKit
variable {U:az}{ph:Ph}{P:Program}{w:World}
def Yc:Value->Value->Bool
 |.int _ a,.int _ b=>decide (a=b)
 |.bool a,.bool b=>a==b
 |_,_=>false
def lX:List Value->List Value->Bool
 | [],[]=>true
 |x::xs,y::ys=>Yc x y&&lX xs ys
 |_,_=>false
def EM:CK->Value->Bool
 |.i k,.int k' _=>decide (k=k')
 |.b,.bool _=>true
 |.f,.float .f64 _=>true
 |_,_=>false
def iG:List CK->List Value->Bool
 | [],[]=>true
 |k::ks,x::xs=>EM k x&&iG ks xs
 |_,_=>false
theorem fp:∀ {ks:List CK} {xs:List Value},iG ks xs=true->xs.length=ks.length:=by
 intro ks;induction ks with
 | nil=>intro xs h;cases xs with
   |nil=>rfl
   |cons x xs=>simp[iG]at h
 | cons k ks ih=>intro xs h;cases xs with
   |nil=>simp[iG]at h
   |cons x xs=>simp only[iG,ao]at h;simp[ih h.2]
theorem ll:∀ {ks ks':List CK} {xs:List Value},iG (ks++ks') xs=true->iG ks (xs.take ks.length)=true/\iG ks' (xs.drop ks.length)=true:=by
 intro ks;induction ks with
 |nil=>intro ks' xs h;exact⟨rfl,by simpa using h⟩
 | cons k ks ih=>intro ks' xs h;cases xs with
   |nil=>simp[iG]at h
   | cons x xs=>
     simp only[List.cons_append,iG,ao]at h;obtain⟨h1,h2⟩:=ih h.2;exact⟨by simp[iG,h.1,h1],by simpa using h2⟩
theorem vz:∀ {xs ys kY ys':List Value},xs.length=ys.length->lX (xs++kY) (ys++ys')=(lX xs ys&&lX kY ys'):=by
 intro xs;induction xs with
 | nil=>intro ys kY ys' h;cases ys with
   |nil=>simp[lX]
   |cons y ys=>simp at h
 | cons x xs ih=>intro ys kY ys' h;cases ys with
   |nil=>simp at h
   |cons y ys=>simp only[List.cons_append,lX,ih (by simpa using h),Bool.and_assoc]
def pv(P:Program)(t:TypeId)(cs:List Value):Value:=if fM P t then .agg cs.toArray else cs.headD undef
theorem bZ{t:TypeId}(h:0<P.cellsOf t):(sizeOf t).run P w = .ok (P.cellsOf t) w:=by
 unfold Program.cellsOf at *;cases hi:P.info? t with
 |none=>simp[hi]at h
 |some i=>simp[sizeOf,typeInfo,hi]
theorem rn{t:TypeId}(h:(P.underlying t).isSome=true):(isAgg t).run P w = .ok (fM P t) w:=by
 obtain⟨d,hd⟩:=Option.isSome_iff_exists.1 h;simp only[isAgg,fM,Sem.run_bind,run_underlying hd,Result.andThen_ok,hd];cases d<;>rfl
theorem ru{t:TypeId}(h:(P.underlying t).isSome=true)(hs:0<P.cellsOf t){cs:Array Value}{off:Nat}(hl:off+P.cellsOf t<=cs.size)(h1:fM P t=false->P.cellsOf t=1) :
   (part t cs off).run P w = .ok (pv P t ((cs.toList.drop off).take (P.cellsOf t))) w:=by
 simp only[part,Sem.run_bind,rn h,Result.andThen_ok,pv];cases hb:fM P t with
 | true=>
   simp only[if_true,Sem.run_bind,bZ hs,Result.andThen_ok,Sem.run_pure];congr 2;apply Array.ext';simp[Array.toList_extract,List.extract_eq_take_drop]
 | false=>
   have EF:=h1 hb;rw[EF]at hl ⊢;have:cs[off]?=some cs[off]:=by simp[Array.getElem?_eq_getElem (show off<cs.size by omega)]
   simp only[Bool.false_eq_true,if_false,this,Sem.run_pure];congr 1;rw[List.drop_eq_getElem_cons (by simp;omega)]
   simp
theorem Ad{n:Nat}{t:TypeId}{ks:List CK}(h:flat P n t=some ks):(P.underlying t).isSome=true:=by
 cases n with
 |zero=>simp[flat]at h
 | succ n=>
   unfold flat at h;cases hu:P.underlying t with
   |none=>simp[hu]at h
   |some d=>rfl
theorem tB{n:Nat}{t:TypeId}{ks:List CK}(h:flat P n t=some ks)(ha:fM P t=false):ks.length=1:=by
 cases n with
 |zero=>simp[flat]at h
 | succ n=>
   unfold flat at h;unfold fM at ha;split at h<;>simp_all
   . rw[<- h];rfl
   . rw[<- h];rfl
theorem uH:∀(n:Nat) (t:TypeId) (ks:List CK),flat P n t=some ks->Uo.uI P n t=false->∀(d:Nat),n<=d->∀xs ys:List Value,
   iG ks xs=true->iG ks ys=true->∀w,(Op.equalIn d t (pv P t xs) (pv P t ys)).run P w = .ok (lX xs ys) w:=by
 intro n;induction n with
 |zero=>intro t ks h;simp[flat]at h
 | succ n ih=>
   intro t ks h hh d hd xs ys hx hy w;obtain⟨d,rfl⟩:∃d',d=d'+1:=⟨d-1,by omega⟩
   unfold flat at h;unfold Uo.uI at hh;split at h
   . rename_i k hu;simp only[af]at h;subst h;have YZ:=fp hx;have Y0:=fp hy
     match xs,ys,YZ,Y0 with
     | [x],[y],_,_=>
       simp only[iG,Bool.and_true]at hx hy;cases x<;>simp[EM]at hx;cases y<;>simp[EM]at hy;simp only[pv,fM,hu,Bool.false_eq_true,if_false,List.headD_cons];subst hx;subst hy;rw[run_equalIn_int w d t _ _ _ _ hu];simp[lX,Yc];rw[Bool.eq_iff_iff];simp
   . rename_i hu;simp only[af]at h;subst h;have YZ:=fp hx;have Y0:=fp hy
     match xs,ys,YZ,Y0 with
     | [x],[y],_,_=>
       simp only[iG,Bool.and_true]at hx hy;cases x<;>simp[EM]at hx;cases y<;>simp[EM]at hy;simp only[pv,fM,hu,Bool.false_eq_true,if_false,List.headD_cons];rw[run_equalIn_bool w d t _ _ hu];simp[lX,Yc]
   . rename_i fs hu;simp only[hu,Bool.or_eq_false_iff]at hh;obtain⟨dB,QH⟩:=hh;simp only[pv,fM,hu,if_true];have hf:P.fieldsOf t=fs:=by simp[Program.fieldsOf,hu]
     rw[run_equalIn_struct w d t _ _ (by rw[hf];exact hu) dB,hf]
     have key:∀(l:List Field) (off:Nat) (ks:List CK),xg P (flat P n) off l=some ks->(l.any fun f=>f.name == "_" ||Uo.uI P n f.type)=false->
         ∀xs ys:List Value,xs.length=off+ks.length->ys.length=off+ks.length->iG ks (xs.drop off)=true->iG ks (ys.drop off)=true->
         ∀w,(Op.eqFields d xs.toArray ys.toArray l).run P w = .ok (lX (xs.drop off) (ys.drop off)) w:=by
       intro l;induction l with
       | nil=>
         intro off ks h _ xs ys hx hy _ _ w;simp only[xg,af]at h;subst h;simp at hx hy;simp[Op.eqFields,List.drop_eq_nil_of_le,hx,hy,lX]
       | cons f l ihl=>
         intro off ks h QH xs ys nL hyl hx hy w;simp only[xg]at h;split at h
         . rename_i EN;split at h
           . rename_i m hm;split at h
             . rename_i hc;split at h
               . rename_i r hr;simp only[af]at h;subst h;simp only[List.any_cons,Bool.or_eq_false_iff]at QH;obtain⟨⟨Y1,KD⟩,xd⟩:=QH;have cx:f.name≠ "_" :=by simpa using Y1
                 obtain⟨Up,Uq⟩:=ll hx;obtain⟨hy1,hy2⟩:=ll hy;simp only[eH]at nL hyl;have Ki:=Ad hm;have px:=ru (P:=P) (w:=w) Ki (by omega) (cs:=xs.toArray) (off:=f.offset) (by simp;omega) (fun ha=>by rw[hc.1];exact tB hm ha)
                 have py:=ru (P:=P) (w:=w) Ki (by omega) (cs:=ys.toArray) (off:=f.offset) (by simp;omega) (fun ha=>by rw[hc.1];exact tB hm ha)
                 simp only[List.toList_toArray,hc.1,EN]at px py;simp only[Op.eqFields,cx,ne_eq,not_false_eq_true,if_true,Sem.run_bind,EN,px,py,Result.andThen_ok];rw[ih f.type m hm KD d (by omega) _ _ Up hy1 w]
                 simp only[Result.andThen_ok];have e:lX (xs.drop off) (ys.drop off)=(lX ((xs.drop off).take m.length) ((ys.drop off).take m.length)&&lX ((xs.drop off).drop m.length) ((ys.drop off).drop m.length)):=by
                   rw[<- vz (by simp;omega),List.take_append_drop,List.take_append_drop]
                 rw[e];cases lX ((xs.drop off).take m.length) ((ys.drop off).take m.length)
                 . simp
                 . have:=ihl (off+m.length) r hr xd xs ys (by omega) (by omega) (by simpa using Uq) (by simpa using hy2) w
                   simp only[Bool.not_true,Bool.false_eq_true,if_false,Bool.true_and,List.drop_drop];exact this
               . cases h
             . cases h
           . cases h
         . cases h
     have YZ:=fp hx;have Y0:=fp hy;exact key fs.toList 0 ks h QH xs ys (by omega) (by omega) (by simpa using hx) (by simpa using hy) w
   . rename_i len e hu;split at h
     . rename_i m hm;split at h
       . rename_i hc;simp only[af]at h;subst h;simp only[hu]at hh;simp only[pv,fM,hu,if_true];have hi:∃i,P.info? e=some i:=by
           have:=hc.2;rw[<- hc.1]at this;unfold Program.cellsOf at this;cases hi:P.info? e with
           |none=>simp[hi]at this
           |some i=>exact⟨i,rfl⟩
         obtain⟨i,hi⟩:=hi;rw[run_equalIn_array w d _ _ hu hi];have Ki:=Ad hm;have key:∀(c:Nat) (s:Nat) (xs ys:List Value),xs.length=(s+c)*m.length->ys.length=(s+c)*m.length->
             iG (List.replicate c m).flatten (xs.drop (s*m.length))=true->iG (List.replicate c m).flatten (ys.drop (s*m.length))=true->
             ∀w,(Op.eqItems d e (P.cellsOf e) xs.toArray ys.toArray (List.range' s c)).run P w = .ok (lX (xs.drop (s*m.length)) (ys.drop (s*m.length))) w:=by
           intro c;induction c with
           | zero=>
             intro s xs ys hx hy _ _ w;rw[Nat.add_zero]at hx hy;have e1:xs.drop (s*m.length)=[]:=List.drop_eq_nil_of_le (by omega)
             have e2:ys.drop (s*m.length)=[]:=List.drop_eq_nil_of_le (by omega)
             simp[Op.eqItems,e1,e2,lX]
           | succ c ihc=>
             intro s xs ys nL hyl hx hy w;simp only[List.replicate_succ,List.flatten_cons]at hx hy;obtain⟨Up,Uq⟩:=ll hx;obtain⟨hy1,hy2⟩:=ll hy;have CY:(s+(c+1))*m.length=s*m.length+m.length+c*m.length:=by rw[Nat.add_mul,Nat.add_mul,Nat.one_mul];omega
             have px:=ru (P:=P) (w:=w) Ki (by omega) (cs:=xs.toArray) (off:=s*m.length) (by simp;omega) (fun ha=>by rw[hc.1];exact tB hm ha)
             have py:=ru (P:=P) (w:=w) Ki (by omega) (cs:=ys.toArray) (off:=s*m.length) (by simp;omega) (fun ha=>by rw[hc.1];exact tB hm ha)
             simp only[List.toList_toArray,hc.1]at px py;simp only[List.range'_succ,Op.eqItems,Sem.run_bind,hc.1,px,py,Result.andThen_ok];rw[ih e m hm hh d (by omega) _ _ Up hy1 w]
             simp only[Result.andThen_ok];have e:lX (xs.drop (s*m.length)) (ys.drop (s*m.length))=(lX ((xs.drop (s*m.length)).take m.length) ((ys.drop (s*m.length)).take m.length)&&lX ((xs.drop (s*m.length)).drop m.length) ((ys.drop (s*m.length)).drop m.length)):=by
               rw[<- vz (by simp;omega),List.take_append_drop,List.take_append_drop]
             rw[e];have e3:(s+1)*m.length=s*m.length+m.length:=by rw[Nat.add_mul,Nat.one_mul]
             have xh:(s+1+c)*m.length=(s+(c+1))*m.length:=by congr 1;omega
             cases lX ((xs.drop (s*m.length)).take m.length) ((ys.drop (s*m.length)).take m.length)
             . simp
             . have:=ihc (s+1) xs ys (by omega) (by omega) (by rw[e3];simpa using Uq) (by rw[e3];simpa using hy2) w
               simp only[Bool.not_true,Bool.false_eq_true,if_false,Bool.true_and,List.drop_drop];rw[hc.1,e3]at this;exact this
         have YZ:=fp hx;have Y0:=fp hy;have Qa:(List.replicate len m).flatten.length=len*m.length:=by simp
         rw[List.range_eq_range'];have:=key len 0 xs ys (by rw[Nat.zero_add];omega) (by rw[Nat.zero_add];omega) (by simpa using hx) (by simpa using hy) w
         simpa using this
       . cases h
     . cases h
   . cases h
theorem Ic{k:CK}{l:ah}(h:fits k l=true):EM k (l.ae U ph)=true:=by
 cases k<;>cases l<;>simp[fits]at h<;>simp[EM,ah.ae,h]
theorem sk:∀ {ks:List CK} {ls:List ah},ln ks ls=true->iG ks (ls.map (ah.ae U ph))=true:=by
 intro ks;induction ks with
 | nil=>intro ls h;cases ls with
   |nil=>rfl
   |cons l ls=>simp[ln]at h
 | cons k ks ih=>intro ls h;cases ls with
   |nil=>simp[ln]at h
   |cons l ls=>simp only[ln,ao]at h;simp[iG,Ic h.1,ih h.2]
theorem EO{x y:ah}{p:BE}(h:ER x y=some p):p.ae U=Yc (x.ae U ph) (y.ae U ph):=by
 unfold ER at h;split at h
 . split at h
   . simp only[af]at h;subst h;simp[BE.cf,BE.ae,Yc,ah.ae]
   . cases h
 . simp only[af]at h;subst h;simp[BE.cf,BE.ae,Yc,ah.ae]
 . cases h
theorem CZ:∀ {xs ys:List ah} {p:BE},oC xs ys=some p->p.ae U=lX (xs.map (ah.ae U ph)) (ys.map (ah.ae U ph)):=by
 intro xs;induction xs with
 | nil=>intro ys p h;cases ys with
   |nil=>simp only[oC,af]at h;subst h;rfl
   |cons y ys=>simp[oC]at h
 | cons x xs ih=>intro ys p h;cases ys with
   |nil=>simp[oC]at h
   | cons y ys=>
     simp only[oC]at h;split at h
     . rename_i p1 p2 h1 h2;simp only[af]at h;subst h;simp[BE.cf,BE.ae,lX,EO (ph:=ph) h1,ih h2]
     . cases h
theorem GF{t:TypeId}{x y:V1}{p:BE}(h:Uo P t x y=some p)(X Y:Operand) :
   (do eqGuard .eql t X Y (x.ae U ph) (y.ae U ph);binOp .eql t (x.ae U ph) (y.ae U ph):Sem Value).run P w = .ok (.bool (p.ae U)) w/\
   (do eqGuard .neq t X Y (x.ae U ph) (y.ae U ph);binOp .neq t (x.ae U ph) (y.ae U ph):Sem Value).run P w = .ok (.bool (!(p.ae U))) w:=by
 unfold Uo at h;split at h
 . rename_i a b;split at h
   . rename_i hu;simp only[af]at h;subst h;constructor
     . show Sem.run P (do eqGuard .eql t X Y (.bool _) (.bool _);binOp .eql t (.bool _) (.bool _)) w=_
       rw[eqGuard_at_bool];simp only[Sem.run_bind,Sem.run_pure,Result.andThen_ok];rw[run_eql_bool w t _ _ hu];simp[BE.cf,BE.ae]
     . show Sem.run P (do eqGuard .neq t X Y (.bool _) (.bool _);binOp .neq t (.bool _) (.bool _)) w=_
       rw[eqGuard_at_bool];simp only[Sem.run_bind,Sem.run_pure,Result.andThen_ok];rw[run_neq_bool w t _ _ hu];simp[BE.cf,BE.ae]
   . cases h
 . rename_i xs ys;split at h
   . rename_i ks hk;split at h
     . rename_i hc;simp only[ao,Bool.not_eq_true']at hc;obtain⟨⟨⟨⟨hx,hy⟩,Bl⟩,hg⟩,KD⟩:=hc;have he:=uH (P:=P) 16 t ks hk KD 10000 (by omega) _ _ (sk (U:=U) (ph:=ph) hx) (sk (U:=U) (ph:=ph) hy) w
       simp only[pv,Bl,if_true]at he;have hd:=CZ (U:=U) (ph:=ph) h;constructor
       . simp only[V1.ae,Sem.run_bind,run_eqGuard_agg w _ t X Y _ _ hg,Result.andThen_ok,run_eql_struct,he,hd]
       . simp only[V1.ae,Sem.run_bind,run_eqGuard_agg w _ t X Y _ _ hg,Result.andThen_ok,run_neq_struct,he,hd]
     . cases h
   . cases h
 . cases h
end Go.Sx
namespace Go.Sx
open Go.RowKit
variable {U:az}{ph:Ph}{P:Program}
theorem gg(a:Addr)(i j:Nat):(a.add i).add j=a.add (i+j):=by
 unfold Addr.add;by_cases hi:i=0
 . subst hi;simp
 . by_cases hj:j=0
   . subst hj;simp[hi]
   . simp[hi,hj,Nat.add_assoc]
theorem iy(b o j:Nat):(⟨b,o,none⟩:Addr).add j=⟨b,o+j,none⟩:=Addr.add_lit b o j
theorem C0{v:Value}{x:V1}(h:ofConst v=some x):x.ae U ph=v:=by
 unfold ofConst at h;split at h<;>simp only[af,reduceCtorEq]at h<;>subst h<;>rfl
theorem pR{st:St}{G:BE}{x:Operand}{sv:SV}{a:Act}(h:Ie st G x=some sv)(hG:G.ae U=true)(ht:fj U ph st.tmps a.tmps) :
   a.eval x=sv.ae U ph:=by
 unfold Ie at h;split at h
 . rename_i t;split at h
   . rename_i s hs;split at h
     . rename_i hg;simp only[af]at h;subst h;have:=ht.2 t s hs;simp only[Act.eval,Array.getD_eq_getD_getElem?,this,Option.getD_some,aP.ae,BE.cD hg hG,if_true]
     . cases h
   . cases h
 . rename_i v;simp only[bB]at h;obtain⟨y,hy,rfl⟩:=h;exact(C0 hy).symm
 . simp only[af]at h;subst h;rfl
 . cases h
theorem cz{st:St}{G:BE}{x:Operand}{v:V1}{a:Act}(h:jM st G x=some v)(hG:G.ae U=true)(ht:fj U ph st.tmps a.tmps) :
   a.eval x=v.ae U ph:=by
 unfold jM at h;split at h
 . rename_i y hy;simp only[af]at h;subst h;exact pR hy hG ht
 . cases h
theorem ay{st:St}{G:BE}{x:Operand}{l:ah}{a:Act}(h:bl st G x=some l)(hG:G.ae U=true)(ht:fj U ph st.tmps a.tmps) :
   a.eval x=l.ae U ph:=by
 unfold bl at h;split at h
 . rename_i y hy;simp only[af]at h;subst h;exact pR hy hG ht
 . cases h
theorem dM{st:St}{id:Nat}{b:gC}(h:fz st id=some b):b∈st.aT/\b.id=id:=by
 unfold fz at h;exact⟨List.mem_of_find?_eq_some h,by simpa using List.find?_some h⟩
theorem aU{st:St}{id:Nat}{r:Row}(h:bC st id=some r):r∈st.rows/\r.id=id:=by
 unfold bC at h;exact⟨List.mem_of_find?_eq_some h,by simpa using List.find?_some h⟩
theorem cS{st:St}{id:Nat}{r:dG}(h:eC st id=some r):r∈st.aY/\r.id=id:=by
 unfold eC at h;exact⟨List.mem_of_find?_eq_some h,by simpa using List.find?_some h⟩
def Looks(P:Program)(t:TypeId)(v:V1):Prop:=
 (P.underlying t).isSome=true/\0<P.cellsOf t/\((fM P t=true/\∃ls,v = .agg ls/\ls.length=P.cellsOf t)\/(fM P t=false/\∃l,v = .one l))
theorem vA{ls:List ah}{off n:Nat}{r:List ah}(h:ES ls off n=some r):r.length=n/\r=(ls.drop off).take n/\off+n<=ls.length:=by
 unfold ES at h;split at h
 . simp only[af]at h;subst h;exact⟨by simp;omega,rfl,by assumption⟩
 . cases h
theorem lY{t:TypeId}{cs:List ah}{off:Nat}{v:V1}(h:pT P t cs off=some v) :
   Looks P t v/\∀j l,v.leaves[j]?=some l->cs[off+j]?=some l:=by
 unfold pT at h;split at h
 . rename_i hc;simp only[ao,aC]at hc;split at h
   . rename_i ha;simp only[bB]at h;obtain⟨ls,uz,rfl⟩:=h;obtain⟨h1,h2,h3⟩:=vA uz;refine⟨⟨hc.1,hc.2,.inl ⟨ha,ls,rfl,h1⟩⟩,fun j l hj=>?_⟩
     simp only[V1.leaves]at hj;rw[h2,List.getElem?_take]at hj;split at hj
     . rw[List.getElem?_drop]at hj;exact hj
     . cases hj
   . rename_i ha;simp only[bB]at h;obtain⟨l,hl,rfl⟩:=h;refine⟨⟨hc.1,hc.2,.inr ⟨by simpa using ha,l,rfl⟩⟩,fun j l' hj=>?_⟩
     simp only[V1.leaves]at hj;cases j with
     |zero=>simp at hj;subst hj;simpa using hl
     |succ j=>simp at hj
 . cases h
theorem gI{t:TypeId}{v:V1}{w:World}{a:Addr}(hv:Looks P t v)(hc:∀j l,v.leaves[j]?=some l->w.cell? (a.add j)=some (l.ae U ph)) :
   (loadVar t a).run P w = .ok (v.ae U ph) w:=by
 obtain⟨hu,hs,⟨ha,ls,rfl,hl⟩|⟨ha,l,rfl⟩⟩:=hv
 . simp only[loadVar,Sem.run_bind,rn hu,Result.andThen_ok,ha,if_true,bZ hs];have:=run_loadCells_list (P:=P) w a (ls.map (ah.ae U ph)) (fun j u hj=>by
     rw[List.getElem?_map]at hj;simp only[bB]at hj;obtain⟨l,hl,rfl⟩:=hj;exact hc j l hl)
   rw[List.length_map,hl]at this;simp only[this,Result.andThen_ok,Sem.run_pure];rfl
 . simp only[loadVar,Sem.run_bind,rn hu,Result.andThen_ok,ha,Bool.false_eq_true,if_false];have:=hc 0 l rfl;rw[Addr.add_zero']at this;simp[run_load,this,V1.ae]
theorem uJ{t:TypeId}{v:V1}{w:World}{cs:List ah}{off:Nat}(h:pT P t cs off=some v) :
   (part t (cs.map (ah.ae U ph)).toArray off).run P w = .ok (v.ae U ph) w:=by
 obtain⟨⟨hu,hs,hv⟩,hc⟩:=lY h;simp only[part,Sem.run_bind,rn hu,Result.andThen_ok];rcases hv with⟨ha,ls,rfl,hl⟩|⟨ha,l,rfl⟩
 . simp only[ha,if_true,Sem.run_bind,bZ hs,Result.andThen_ok,Sem.run_pure,V1.ae];congr 2;unfold pT at h;simp only[hu,hs,decide_true,Bool.and_self,if_true,ha,bB]at h;obtain⟨GG,uz,e⟩:=h;obtain⟨h1,h2,h3⟩:=vA uz;simp only[V1.agg.injEq]at e;subst e;apply Array.ext';simp[Array.toList_extract,List.extract_eq_take_drop,h2,List.map_take,List.map_drop]
 . have:=hc 0 l rfl;simp only[Nat.add_zero]at this;simp[ha,this,V1.ae]
theorem zo:∀ {n:Nat} {cells:List ah} {off sz:Nat} {ls:List ah},pU cells off sz n=some ls->ls.length=n/\∀j l,ls[j]?=some l->cells[off+j*sz]?=some l:=by
 intro n;induction n with
 |zero=>intro cells off sz ls h;simp only[pU,af]at h;subst h;simp
 | succ n ih=>
   intro cells off sz ls h;simp only[pU]at h;split at h
   . rename_i l GG h1 h2;simp only[af]at h;subst h;obtain⟨h3,h4⟩:=ih h2;refine⟨by simp[h3],fun j l' hj=>?_⟩
     cases j with
     |zero=>simp at hj;subst hj;simpa using h1
     | succ j=>
       simp only[List.getElem?_cons_succ]at hj;have:=h4 j l' hj;rw[Nat.add_mul,Nat.one_mul];rwa[show off+(j*sz+sz)=off+sz+j*sz by omega]
   . cases h
theorem C1{x:IE}:∀ {ls:List ah} {j:Nat} {l:ah},ry x j ls=some l->∀i:Nat,x.ae U=((j+i:Nat):Int)->i<ls.length->∃l',ls[i]?=some l'/\l.ae U ph=l'.ae U ph:=by
 intro ls;induction ls with
 |nil=>intro j l h;simp[ry]at h
 | cons l0 ls ih=>
   intro j l h i hx hi;cases ls with
   | nil=>
     simp only[ry,af]at h;subst h;have:i=0:=by simp at hi;exact hi
     subst this;exact⟨l0,rfl,rfl⟩
   | cons l1 ls=>
     simp only[ry]at h;split at h
     . rename_i k a k' b h1;split at h
       . rename_i hk;subst hk;simp only[af]at h;subst h;cases i with
         | zero=>
           refine⟨_,rfl,?_⟩;simp only[Nat.add_zero]at hx;simp[ah.ae,IE.ae,hx]
         | succ i=>
           obtain⟨l',tu,he⟩:=ih h1 i (by rw[hx];congr 1;omega) (by simpa using hi)
           refine⟨l',by simpa using tu,?_⟩
           have cx:x.ae U≠(j:Int):=by rw[hx];omega
           rw[<- he];simp[ah.ae,IE.ae,cx]
       . cases h
     . rename_i p q h1;simp only[af]at h;subst h;cases i with
       | zero=>
         refine⟨_,rfl,?_⟩;simp only[Nat.add_zero]at hx;simp[ah.ae,BE.ae,IE.ae,hx]
       | succ i=>
         obtain⟨l',tu,he⟩:=ih h1 i (by rw[hx];congr 1;omega) (by simpa using hi)
         refine⟨l',by simpa using tu,?_⟩
         have cx:x.ae U≠(j:Int):=by rw[hx];omega
         rw[<- he];simp[ah.ae,BE.ae,IE.ae,cx]
     . cases h
theorem uK{cells:List ah}{off sz n:Nat}{x:IE}{l:ah}(h:C2 cells off sz n x=some l)(h0:0<=x.ae U)(h1:x.ae U<(n:Int)) :
   ∃l',cells[off+(x.ae U).toNat*sz]?=some l'/\l.ae U ph=l'.ae U ph:=by
 unfold C2 at h;split at h
 . rename_i ls uz;obtain⟨e1,e2⟩:=zo uz;obtain⟨l',tu,he⟩:=C1 (U:=U) (ph:=ph) h (x.ae U).toNat (by omega) (by omega)
   exact⟨l',e2 _ l' tu,he⟩
 . cases h
theorem Bm{cells:List ah}{sz n:Nat}{x:IE}(h0:0<=x.ae U)(h1:x.ae U<(n:Int)):∀ {m off:Nat} {ls:List ah},pV cells sz n x off m=some ls->
   ls.length=m/\∀j l,ls[j]?=some l->∃l',cells[off+j+(x.ae U).toNat*sz]?=some l'/\l.ae U ph=l'.ae U ph:=by
 intro m;induction m with
 |zero=>intro off ls h;simp only[pV,af]at h;subst h;simp
 | succ m ih=>
   intro off ls h;simp only[pV]at h;split at h
   . rename_i l GG h2 h3;simp only[af]at h;subst h;obtain⟨e1,e2⟩:=ih h3;refine⟨by simp[e1],fun j l' hj=>?_⟩
     cases j with
     |zero=>simp at hj;subst hj;exact uK h2 h0 h1
     | succ j=>
       simp only[List.getElem?_cons_succ]at hj;have:=e2 j l' hj;rwa[show off+1+j=off+(j+1)by omega]at this
   . cases h
theorem zp{lv:Nat}{x:IE}:∀ {ks:List CK} {j0 j:Nat},(lR lv x j0 ks)[j]?=(ks[j]?).map (oD lv x (j0+j)):=by
 intro ks;induction ks with
 |nil=>intro j0 j;simp[lR]
 | cons k ks ih=>
   intro j0 j;cases j with
   |zero=>simp[lR]
   |succ j=>simp only[lR,List.getElem?_cons_succ,ih];rw[show j0+1+j=j0+(j+1)by omega]
theorem pW{lv:Nat}{x:IE}{j:Nat}{k:CK}:(oD lv x j k).ae U ph=k.val (cellAt (U lv).list (x.ae U) j):=by
 cases k<;>rfl
def mO(ph:Ph):ah->Option Nat
 |.p id _=>some (ph.r id)
 |.pi id _ _ _ _=>some (ph.r id)
 |.ep row _ _ _=>(ph.val row).ownBlock
 |.ab row _ _=>(ph.val row).ownBlock
 |_=>none
theorem iz{B:Nat}{r:Row}{w:World}(h:fE B U ph r w){i:Int}(h0:0<=i)(h1:i<((U r.lv).list.length:Int)) :
   ∃a cap,ph.v r.id=(some a,(U r.lv).list.length,cap)/\∀j k,r.ks[j]?=some k->w.cell? (a.add (i.toNat*r.ks.length+j))=some (k.val (cellAt (U r.lv).list i j)):=by
 obtain⟨base,cap,hv,hn,ke,hc⟩:=h.reads;have hlen:0<(U r.lv).list.length:=by omega
 cases base with
 |none=>exact absurd (ke rfl).1 (by omega)
 | some a=>
   have tv:ph.v r.id=(some a,(U r.lv).list.length,cap):=by
     simp only[Ph.val,Value.slice.injEq]at hv;exact Prod.ext hv.1 (Prod.ext hv.2.1 hv.2.2)
   refine⟨a,cap,tv,fun j k hj=>?_⟩
   have EG:j<r.ks.length:=(cT.1 hj).1;have:=lg r.ks (U r.lv).list i.toNat j (by omega) EG
   rw[hj]at this;obtain⟨a',e,kZ⟩:=hc _ _ this;simp only[af]at e;subst e;exact kZ
theorem Ae{B:Nat}{st:St}{G:BE}{t:TypeId}{l:ah}{ns:List BE}{v:V1}{w w':World}(h:Af P st G t l=some (ns,v))(hG:G.ae U=true)(hn:∀n∈ns,n.ae U=true)
   (hm:iW B U ph st.aT st.rows w) (hw:∀k,mO ph l=some k->w'.heap[k]?=w.heap[k]?):(Instr.loadAt t (l.ae U ph)).run P w' = .ok (v.ae U ph) w':=by
 unfold Af at h;split at h
 . rename_i id off;split at h
   . rename_i b hb;simp only[bB,ax]at h;obtain⟨v',hv,rfl,rfl⟩:=h;obtain⟨bd,rfl⟩:=dM hb;obtain⟨nM,iu⟩:=lY hv;have KE:=(hm.lQ b bd).2;have ET:=hw _ rfl;rw[KE]at ET;simp only[Instr.loadAt,ah.ae,Instr.sureAddr,Sem.run_bind,Sem.run_pure,Result.andThen_ok];refine gI nM fun j lf hj=>?_
     rw[iy,cell_of_row w' _ _ _ _ _ ET];have:=iu j lf hj;simp[this]
   . cases h
 . rename_i id off sz n x;split at h
   . rename_i b hb;obtain⟨bd,rfl⟩:=dM hb;have KE:=(hm.lQ b bd).2;have ET:=hw _ rfl;rw[KE]at ET;split at h
     . cases h
     . rename_i hc;simp only[Bool.not_eq_true',Bool.not_eq_false,ao,aC]at hc;have fin:∀v:V1,Looks P t v->(∀j l,v.leaves[j]?=some l->∃l',b.cells[off+j+(x.ae U).toNat*sz]?=some l'/\l.ae U ph=l'.ae U ph)->
           (Instr.loadAt t ((ah.pi b.id off sz n x).ae U ph)).run P w' = .ok (v.ae U ph) w':=by
         intro v nM iu;simp only[Instr.loadAt,ah.ae,Instr.sureAddr,Sem.run_bind,Sem.run_pure,Result.andThen_ok];refine gI nM fun j lf hj=>?_
         obtain⟨l',h1,h2⟩:=iu j lf hj;rw[iy,cell_of_row w' _ _ _ _ _ ET,show off+(x.ae U).toNat*sz+j=off+j+(x.ae U).toNat*sz by omega]
         simp[h1,h2]
       split at h
       . rename_i ha;simp only[bB,ax]at h;obtain⟨ls,uz,rfl,rfl⟩:=h;have h0:=bS (hn _ (aO ..));have h1:=eM (hn _ (bp _ (aO ..)));obtain⟨e1,e2⟩:=Bm (U:=U) (ph:=ph) (x:=x) (n:=n) h0 h1 uz;exact fin _ ⟨hc.1,hc.2,.inl ⟨ha,ls,rfl,e1⟩⟩ e2
       . rename_i ha;simp only[bB,ax]at h;obtain⟨lf,hlf,rfl,rfl⟩:=h;have h0:=bS (hn _ (aO ..));have h1:=eM (hn _ (bp _ (aO ..)));refine fin _ ⟨hc.1,hc.2,.inr ⟨by simpa using ha,lf,rfl⟩⟩ fun j l hj=>?_
         cases j with
         | zero=>
           simp only[V1.leaves,List.getElem?_cons_zero,af]at hj;subst hj;exact uK hlf h0 h1
         |succ j=>simp[V1.leaves]at hj
   . cases h
 . rename_i row sz x j;split at h
   . rename_i r hr;obtain⟨bd,rfl⟩:=aU hr;split at h
     . rename_i hc;simp only[ao,aC]at hc;obtain⟨hg,rfl⟩:=hc;split at h
       . rename_i v' hv;simp only[af,ax]at h;obtain⟨rfl,rfl⟩:=h;have h0:=bS (hn _ (aO ..));have h1:=eM (hn _ (bp _ (aO ..)));simp only[IE.ae]at h0 h1;obtain⟨a,cap,iH,fY⟩:=iz (hm.row r bd (BE.cD hg hG)) h0 h1;obtain⟨nM,iu⟩:=lY hv;simp only[Instr.loadAt,ah.ae,iH,Instr.sureAddr,Sem.run_bind,Sem.run_pure,Result.andThen_ok];refine gI nM fun jj lf hj=>?_
         have:=iu jj lf hj;rw[zp]at this;simp only[bB,Nat.zero_add]at this;obtain⟨k,hk,rfl⟩:=this;rw[gg,Nat.add_assoc,pW,<- fY _ k hk];refine World.cell?_of_block (w:=w) ?_;have jI:∀n,(a.add n).block=a.block:=fun n=>by unfold Addr.add;split<;>rfl
         rw[jI];exact hw _ (by simp[mO,Ph.val,iH,Value.ownBlock])
       . rename_i hv;unfold KF at h;split at h
         . rename_i k n lS;split at h
           . rename_i hc;simp only[ao,aC]at hc;simp only[af,ax]at h;obtain⟨rfl,rfl⟩:=h;have hle:=bS (hn _ (aO ..));simp only[IE.ae]at hle;have bc:=hm.row r bd (BE.cD hg hG);obtain⟨a,cap,iH,_⟩:=iz bc (i:=0) (Int.le_refl _) (by omega)
             have Ig:∀q:Nat,q<P.cellsOf t->w.cell? (a.add (n+q))=some (k.val (cellAt (U r.lv).list ((n+q:Nat):Int) 0)):=fun q hq=>by
               obtain⟨a',nN,Bn,fY⟩:=iz bc (i:=((n+q:Nat):Int)) (by omega) (by omega)
               rw[iH]at Bn;simp only[ax,af]at Bn;obtain⟨rfl,_⟩:=Bn;have:=fY 0 k (by rw[lS];rfl)
               rw[lS]at this;simp only[List.length_singleton,Nat.mul_one,Nat.add_zero,Int.toNat_natCast]at this;exact this
             simp only[Instr.loadAt,ah.ae,iH,Instr.sureAddr,Sem.run_bind,Sem.run_pure,Result.andThen_ok,IE.ae];refine gI ⟨hc.1.1,hc.1.2,.inl ⟨hc.2,_,rfl,by simp⟩⟩ fun jj lf hj=>?_
             simp only[V1.leaves,List.getElem?_map,bB]at hj;obtain⟨q,hq,rfl⟩:=hj;obtain⟨EH,hqe⟩:=cT.1 hq;simp only[List.length_range]at EH;simp only[List.getElem_range]at hqe;subst hqe;rw[pW,gg,lS];simp only[List.length_singleton,Nat.mul_one,Nat.add_zero,IE.ae];rw[show(Int.ofNat n).toNat=n from rfl,<- Ig jj EH]
             refine World.cell?_of_block (w:=w) ?_;have jI:∀n,(a.add n).block=a.block:=fun n=>by unfold Addr.add;split<;>rfl
             rw[jI];exact hw _ (by simp[mO,Ph.val,iH,Value.ownBlock])
           . cases h
         . cases h
     . cases h
   . cases h
 . rename_i row m b;split at h
   . rename_i r hr;obtain⟨bd,rfl⟩:=aU hr;split at h
     . rename_i hc;simp only[ao,aC,Bool.not_eq_true']at hc;obtain⟨⟨⟨⟨hg,lS⟩,hu⟩,mJ⟩,hna⟩:=hc;simp only[af,ax]at h;obtain⟨rfl,rfl⟩:=h;have h1:=eM (hn _ (aO ..));have h2:=hn _ (bp _ (aO ..));rw[BE.cf]at h2;simp only[IE.ae,BE.ae,aC]at h1 h2;obtain⟨a,cap,iH,fY⟩:=iz (hm.row r bd (BE.cD hg hG)) (i:=(m:Int)) (by omega) h1
       have kZ:=fY 0 (.i .u8) (by rw[lS];rfl)
       rw[lS]at kZ;simp only[List.length_singleton,Nat.mul_one,Nat.add_zero,Int.toNat_natCast]at kZ;simp only[Instr.loadAt,ah.ae,iH,Instr.sureAddr,Sem.run_bind,Sem.run_pure,Result.andThen_ok];refine gI ⟨hu,by omega,.inr ⟨hna,_,rfl⟩⟩ fun jj lf hj=>?_
       cases jj with
       |succ jj=>simp[V1.leaves]at hj
       | zero=>
         simp only[V1.leaves,List.getElem?_cons_zero,af]at hj;subst hj;rw[gg,Nat.add_zero];have hb:∀n,(a.add n).block=a.block:=fun n=>by unfold Addr.add;split<;>rfl
         have:=World.cell?_of_block (w:=w) (w':=w') (a:=a.add m) (by rw[hb];exact hw _ (by simp[mO,Ph.val,iH,Value.ownBlock]))
         rw[this,kZ];simp[ah.ae,CK.val,IE.ae,of_decide_eq_true h2]
     . cases h
   . cases h
 . cases h
end Go.Sx
namespace Go.Sx
open Go.RowKit
variable {U:az}{ph:Ph}{P:Program}
theorem Bo(bs:List UInt8):(⟨bs.toArray⟩:ByteArray).toList=bs:=by
 rw[ByteArray.toList_eq]
theorem Ih(bs:List UInt8)(i:Nat):(⟨bs.toArray⟩:ByteArray)[i]?=bs[i]? :=by
 by_cases h:i<bs.length
 . rw[getElem?_pos (⟨bs.toArray⟩:ByteArray) i (by simpa[ByteArray.size]using h),dJ h]
   rfl
 . rw[getElem?_neg (⟨bs.toArray⟩:ByteArray) i (by simpa[ByteArray.size]using h),List.getElem?_eq_none (by omega)]
theorem sm(bs:List UInt8)(l h:Nat):(⟨bs.toArray⟩:ByteArray).extract l h=⟨((bs.drop l).take (h-l)).toArray⟩:=by
 apply ByteArray.ext;simp
theorem sL(bs:List UInt8):(⟨bs.toArray⟩:ByteArray).size=bs.length:=by simp[ByteArray.size]
theorem C3{B:Nat}{st:St}{G:BE}{t:TypeId}{X Y:Operand}{x y:V1}{ns:List BE}{p:BE}{w w':World}(h:QI P st G t X Y x y=some (ns,p))(hG:G.ae U=true)(hn:∀n∈ns,n.ae U=true)(hm:iW B U ph st.aT st.rows w) :
   (do eqGuard .eql t X Y (x.ae U ph) (y.ae U ph);binOp .eql t (x.ae U ph) (y.ae U ph):Sem Value).run P w' = .ok (.bool (p.ae U)) w'/\
   (do eqGuard .neq t X Y (x.ae U ph) (y.ae U ph);binOp .neq t (x.ae U ph) (y.ae U ph):Sem Value).run P w' = .ok (.bool (!(p.ae U))) w':=by
 have sl:∀(a:Option Addr) (l c:Nat),(eqGuard .eql t X Y (.slice a l c) (.slice none 0 0)=pure ())/\(eqGuard .neq t X Y (.slice a l c) (.slice none 0 0)=pure ()):=fun a l c=>⟨rfl,rfl⟩
 unfold QI at h;split at h
 . split at h
   . rename_i e hu;simp only[af,ax]at h;obtain⟨rfl,rfl⟩:=h;simp only[V1.ae,ah.ae,(sl none 0 0).1,(sl none 0 0).2];constructor
     . simp[Lib.run_eql_slice_nil w' t e none 0 0 0 0 hu,BE.ae]
     . simp[run_neq_slice_nil w' t e none 0 0 hu,BE.ae]
   . cases h
 . rename_i row;split at h
   . rename_i e r hu hr;split at h
     . rename_i hg;simp only[af,ax]at h;obtain⟨rfl,rfl⟩:=h;obtain⟨bd,rfl⟩:=aU hr;have h1:=eM (hn _ (aO ..));simp only[IE.ae]at h1;obtain⟨a,cap,iH,_⟩:=iz (hm.row r bd (BE.cD hg hG)) (i:=0) (Int.le_refl _) h1;simp only[V1.ae,ah.ae,Ph.val,iH,(sl (some a) _ cap).1,(sl (some a) _ cap).2];constructor
       . simp[Lib.run_eql_slice_nil w' t e (some a) _ cap 0 0 hu,BE.ae]
       . simp[run_neq_slice_nil w' t e (some a) _ cap hu,BE.ae]
     . cases h
   . cases h
 . rename_i a b;split at h
   . rename_i hu;simp only[af,ax]at h;obtain⟨rfl,rfl⟩:=h;simp only[V1.ae,ah.ae,eqGuard_at_string,binOp_string_eql,binOp_string_neq,Bo];constructor
     . simp[BE.ae];by_cases e:a=b<;>simp[e]
     . simp[BE.ae];by_cases e:a=b<;>simp[e]
   . cases h
 . split at h
   . rename_i ms hu;split at h
     . rename_i hc;simp only[af,ax]at h;obtain⟨rfl,rfl⟩:=h;have hi:P.isIface t=true:=by simp[Program.isIface,hu]
       have g:∀op:BinOp,eqGuard op t X Y .nilIface .nilIface=pure ():=fun op=>by
         cases X with
         |const c=>exact eqGuard_nil_constL ..
         | _=>cases Y with
           |const c=>exact eqGuard_nil_constR ..
           |_=>simp[isConst]at hc
       simp only[V1.ae,ah.ae,g];constructor
       . simp[run_eql_nil_nil_at w' t hi,BE.ae]
       . simp[run_neq_nil_nil_at w' t hi,BE.ae]
     . cases h
   . cases h
 . cases h
theorem KG{B:Nat}{r:Row}{w:World}(h:fE B U ph r w){sz:Nat}{lo n:IE}(h0:0<=lo.ae U)(hn:0<n.ae U)(hl:lo.ae U+n.ae U<=((U r.lv).list.length:Int)) :
   ∃a cap,ph.v r.id=(some a,(U r.lv).list.length,cap)/\(ah.vw r.id sz lo n).ae U ph = .slice (some (a.add ((lo.ae U).toNat*sz))) (n.ae U).toNat (cap-(lo.ae U).toNat):=by
 obtain⟨a,cap,iH,_⟩:=iz h h0 (by omega)
 refine⟨a,cap,iH,?_⟩;obtain⟨base,nN,hv,hlen,_⟩:=h.reads;simp only[Ph.val,iH,Value.slice.injEq]at hv;obtain⟨_,_,rfl⟩:=hv;simp only[ah.ae,iH];rw[if_neg (by omega)]
 rfl
theorem pq{t e:TypeId}{a:Addr}{len cap:Nat}{k:IntKind}{i:Int}{w:World}(hu:P.underlying t=some (.slice e))(h0:0<=i)(h1:i<(len:Int))(hs:0<P.cellsOf e) :
   (Instr.indexAt t (.slice (some a) len cap) (.int k i)).run P w = .ok (.pointer (some (a.add (i.toNat*P.cellsOf e)))) w:=by
 have he:P.elem t=e:=by simp[Program.elem,hu]
 rw[run_indexAt_slice w t a len cap k i (by rw[he];exact hu),he,if_pos ⟨h0,h1⟩,bZ hs]
 rfl
theorem nO{t e:TypeId}{a:Addr}{len cap:Nat}{k:IntKind}{i:Int}{w:World}(hu:P.underlying t=some (.slice e))(h0:0<=i)(h1:i<(len:Int))(hs:(P.info? e).isSome=true) :
   (Instr.indexAt t (.slice (some a) len cap) (.int k i)).run P w = .ok (.pointer (some (a.add (i.toNat*P.cellsOf e)))) w:=by
 have he:P.elem t=e:=by simp[Program.elem,hu]
 obtain⟨info,hi⟩:=Option.isSome_iff_exists.1 hs;rw[run_indexAt_slice w t a len cap k i (by rw[he];exact hu),he,if_pos ⟨h0,h1⟩]
 simp[sizeOf,typeInfo,hi,Program.cellsOf]
theorem KH{B:Nat}{r:Row}{w w':World}(h:fE B U ph r w){t e:TypeId}{k:IntKind}{sz:Nat}{lo n i:IE}(hu:P.underlying t=some (.slice e))(hc:P.cellsOf e=sz)(hk:r.ks.length=sz)(h0:0<=lo.ae U)(hl:lo.ae U+n.ae U<=((U r.lv).list.length:Int))(pZ:0<=i.ae U)(GH:i.ae U<n.ae U) :
   (Instr.indexAt t ((ah.vw r.id sz lo n).ae U ph) (.int k (i.ae U))).run P w' = .ok ((ah.ep r.id sz (IE.add lo i).mk 0).ae U ph) w':=by
 obtain⟨a,cap,iH,hd⟩:=KG (sz:=sz) h h0 (by omega) hl
 rw[hd,pq hu pZ (by omega) (by rw[hc,<- hk];exact h.1)]
 simp only[ah.ae,iH,IE.cf,IE.ae,hc,gg,Nat.add_zero];congr 4;rw[<- Nat.add_mul];congr 1;omega
theorem KI{B:Nat}{r:Row}{w w':World}(h:fE B U ph r w){t e:TypeId}{k:IntKind}{bs:List UInt8}{m:Int}{b:UInt8}(hu:P.underlying t=some (.slice e))(hc:P.cellsOf e=1)(hk:r.ks.length=1)(h0:0<=m)(h1:m<((U r.lv).list.length:Int)) :
   (Instr.indexAt t ((ah.kb r.id bs).ae U ph) (.int k m)).run P w' = .ok ((ah.ab r.id m.toNat b).ae U ph) w':=by
 obtain⟨a,cap,iH,_⟩:=iz h h0 h1;simp only[ah.ae,Ph.val,iH];rw[pq hu h0 h1 (by omega)]
 simp[hc]
theorem Ii:∀ {ls:List ah} {xs:List c8},C4 ls=some xs->ls.map (ah.ae U ph)=xs.map (c8.ae U ph):=by
 intro ls;induction ls with
 |nil=>intro xs h;simp only[C4,af]at h;subst h;rfl
 | cons l ls ih=>
   intro xs h;simp only[C4]at h;split at h
   . rename_i x kY hx nP;simp only[af]at h;subst h;rw[ah.down_up hx];simp[c8.Bi,ih nP]
   . cases h
theorem jT{k:IntKind}{i:Int}{y:Nat}{c:BoundsCode}{w:World}(h0:0<=i)(h1:i<=(y:Int)):(Instr.sliceBound (.int k i) y c).run P w = .ok i.toNat w:=by
 simp[Instr.sliceBound,asIntOf,h0,h1]
theorem sn{t e:TypeId}{x:Value}{lo hi mx:Option Value}{w:World}(hu:P.underlying t=some (.slice e)):(Instr.sliceAt t x lo hi mx).run P w=(Instr.slice t x lo hi mx).run P w:=by
 simp[Instr.sliceAt,run_underlying hu]
theorem vB{t:TypeId}{x:Value}{lo hi mx:Option Value}{w:World}(hu:P.underlying t=some .string):(Instr.sliceAt t x lo hi mx).run P w=(Instr.slice t x lo hi mx).run P w:=by
 simp[Instr.sliceAt,run_underlying hu]
theorem Ag{t e:TypeId}{base:Option Addr}{len cap:Nat}{lo hi:Int}{kl:IntKind}{w:World}(hu:P.underlying t=some (.slice e))(hv:Option Value)(hh:hi=(match hv with|none=>(len:Int)|some (.int _ n)=>n|some _=>hi))(hk:∀v,hv=some v->∃k,v = .int k hi)(h0:0<=lo)(h1:lo<=hi)(h2:hi<=(cap:Int))(hs:0<P.cellsOf e) :
   (Instr.sliceAt t (.slice base len cap) (some (.int kl lo)) hv none).run P w = .ok (.slice (if cap=lo.toNat then base else base.map (·.add (lo.toNat*P.cellsOf e))) (hi-lo).toNat (cap-lo.toNat)) w:=by
 rw[sn hu];have e1:(Instr.sliceBounds true len cap (some (.int kl lo)) hv none).run P w = .ok (lo.toNat,hi.toNat,cap) w:=by
   cases hv with
   | none=>
     simp only at hh;subst hh;simp[Instr.sliceBounds,jT h0 h1]
   | some v=>
     obtain⟨k,rfl⟩:=hk v rfl;simp[Instr.sliceBounds,jT (show 0<=hi by omega) h2,jT h0 (show lo<=(hi.toNat:Int)by omega)]
 simp only[Instr.slice,Sem.run_bind,run_underlying hu,Result.andThen_ok,e1,bZ hs,Sem.run_pure];congr 3;omega
theorem EU{t e:TypeId}{base:Option Addr}{len cap:Nat}{kh km:IntKind}{w:World}(hu:P.underlying t=some (.slice e))(h2:len<=cap)(hs:0<P.cellsOf e) :
   (Instr.sliceAt t (.slice base len cap) none (some (.int kh (len:Int))) (some (.int km (len:Int)))).run P w = .ok (.slice base len len) w:=by
 rw[sn hu];have e1:(Instr.sliceBounds true len cap none (some (.int kh (len:Int))) (some (.int km (len:Int)))).run P w = .ok (0,len,len) w:=by
   simp[Instr.sliceBounds,jT (P:=P) (w:=w) (k:=km) (c:=.slice3Acap) (show(0:Int)<=(len:Int)by omega) (show(len:Int)<=(cap:Int)by omega),jT (P:=P) (w:=w) (k:=kh) (c:=.slice3B) (y:=len) (show(0:Int)<=(len:Int)by omega) (Int.le_refl _)]
 simp only[Instr.slice,Sem.run_bind,run_underlying hu,Result.andThen_ok,e1,bZ hs,Sem.run_pure];cases base with
 |none=>simp
 |some a=>simp[Addr.add_zero']
theorem C5{t:TypeId}{bs:List UInt8}{lo:Int}{kl:IntKind}{w:World}(hu:P.underlying t=some .string)(h0:0<=lo)(h1:lo<=(bs.length:Int)) :
   (Instr.sliceAt t (.string ⟨bs.toArray⟩) (some (.int kl lo)) none none).run P w = .ok (.string ⟨(bs.drop lo.toNat).toArray⟩) w:=by
 rw[vB hu];have e1:(Instr.sliceBounds false bs.length bs.length (some (.int kl lo)) none none).run P w = .ok (lo.toNat,bs.length,bs.length) w:=by
   simp[Instr.sliceBounds,jT h0 h1]
 simp only[Instr.slice,Sem.run_bind,run_underlying hu,Result.andThen_ok,sL,Sem.run_pure,sm];simp only[Option.isSome_none,Bool.false_eq_true,if_false,Sem.run_bind,Sem.run_pure,Result.andThen_ok];rw[e1];simp only[Result.andThen_ok];rw[List.take_of_length_le (by simp)]
theorem Ij{t:TypeId}{bs:List UInt8}{hi:Int}{kh:IntKind}{w:World}(hu:P.underlying t=some .string)(h0:0<=hi)(h1:hi<=(bs.length:Int)) :
   (Instr.sliceAt t (.string ⟨bs.toArray⟩) none (some (.int kh hi)) none).run P w = .ok (.string ⟨(bs.take hi.toNat).toArray⟩) w:=by
 rw[vB hu];have e1:(Instr.sliceBounds false bs.length bs.length none (some (.int kh hi)) none).run P w = .ok (0,hi.toNat,bs.length) w:=by
   simp[Instr.sliceBounds,jT h0 h1]
 simp only[Instr.slice,Sem.run_bind,run_underlying hu,Result.andThen_ok,sL,Sem.run_pure,sm];simp only[Option.isSome_none,Bool.false_eq_true,if_false,Sem.run_bind,Sem.run_pure,Result.andThen_ok];rw[e1];simp
end Go.Sx
namespace Go.Sx
open Go.RowKit
variable {U:az}{ph:Ph}{P:Program}
theorem ah.fc(l:ah):(l.ae U ph).cells = #[l.ae U ph]:=by
 cases l with
 |ep row sz x j=>simp only[ah.ae];cases(ph.v row).1<;>rfl
 |ab row m b=>simp only[ah.ae];cases(ph.v row).1<;>rfl
 |_=>rfl
theorem V1.fc(v:V1):(v.ae U ph).cells=(v.leaves.map (ah.ae U ph)).toArray:=by
 cases v with
 |one l=>simp[V1.ae,V1.leaves,ah.fc]
 |agg ls=>simp[V1.ae,V1.leaves,Value.cells]
theorem ah.vC(l:ah):(l.ae U ph).oneCell'=true:=by
 cases l with
 |ep row sz x j=>simp only[ah.ae];cases(ph.v row).1<;>rfl
 |ab row m b=>simp only[ah.ae];cases(ph.v row).1<;>rfl
 |_=>rfl
theorem lq:∀(ls cells:List ah) (off:Nat),(gJ cells off ls).map (ah.ae U ph) =
   ((ls.map (ah.ae U ph)).zipIdx 0).foldl (fun cs x=>cs.set (off+x.2) x.1) (cells.map (ah.ae U ph)):=by
 have gen:∀(ls cells:List ah) (off k:Nat),(gJ cells (off+k) ls).map (ah.ae U ph) =
     ((ls.map (ah.ae U ph)).zipIdx k).foldl (fun cs x=>cs.set (off+x.2) x.1) (cells.map (ah.ae U ph)):=by
   intro ls;induction ls with
   |nil=>intro cells off k;rfl
   | cons l ls ih=>
     intro cells off k;simp only[gJ,List.map_cons,List.zipIdx_cons,List.foldl_cons];rw[show off+k+1=off+(k+1)by omega,ih]
     simp[List.map_set]
 intro ls cells off;simpa using gen ls cells off 0
theorem uL(vs:List Value)(cs:Array Value)(off:Nat) :
   (vs.toArray.zipIdx.foldl (fun cs (x:Value×Nat)=>cs.setIfInBounds (off+x.2) x.1) cs).toList=(vs.zipIdx 0).foldl (fun cs x=>cs.set (off+x.2) x.1) cs.toList:=by
 rw[<- Array.foldl_toList];simp only[Array.toList_zipIdx,List.toList_toArray];generalize vs.zipIdx 0=l;induction l generalizing cs with
 |nil=>rfl
 |cons x l ih=>simp only[List.foldl_cons];rw[ih];simp
theorem EV(place:Nat->Option (Nat×Nat)):∀(ps:List (Nat×V1)) (cells r:List ah),Ah place cells ps=some r->
   Instr.fill place (cells.map (ah.ae U ph)).toArray (ps.map fun p=>(p.1,p.2.ae U ph))=some (r.map (ah.ae U ph)).toArray:=by
 intro ps;induction ps with
 |nil=>intro cells r h;simp only[Ah,af]at h;subst h;rfl
 | cons p ps ih=>
   intro cells r h;obtain⟨i,v⟩:=p;simp only[Ah]at h;split at h
   . cases h
   . rename_i off size hp;split at h
     . cases h
     . rename_i hc;simp only[not_or,ne_eq,Decidable.not_not,Nat.not_lt]at hc;simp only[List.map_cons,Instr.fill,hp,V1.fc];rw[if_neg (by simp;omega)]
       rw[<- ih _ _ h];congr 1;apply Array.ext';rw[uL];simp[lq]
theorem nw{st:St}{G:BE}{a:Act}(hG:G.ae U=true)(ht:fj U ph st.tmps a.tmps):∀ {l:List (Nat×Operand)} {ps:List (Nat×V1)},gp st G l=some ps->
   (l.map fun p=>(p.1,a.eval p.2))=ps.map fun p=>(p.1,p.2.ae U ph):=by
 intro l;induction l with
 |nil=>intro ps h;simp only[gp,af]at h;subst h;rfl
 | cons p l ih=>
   intro ps h;obtain⟨i,x⟩:=p;simp only[gp]at h;split at h
   . rename_i v l' h1 h2;simp only[af]at h;subst h;simp only[List.map_cons,ih h2,cz h1 hG ht]
   . cases h
theorem tC{v:Value}{l:ah}(h:p8 v=some l):l.ae U ph=v:=by
 unfold p8 at h;split at h<;>simp only[af,reduceCtorEq]at h<;>subst h<;>rfl
theorem zq:∀ {vs:List Value} {ls:List ah},vs.mapM p8=some ls->ls.map (ah.ae U ph)=vs:=by
 intro vs;induction vs with
 |nil=>intro ls h;simp at h;subst h;rfl
 | cons v vs ih=>
   intro ls h;rw[List.mapM_cons]at h;simp only[bind,Option.bind_eq_some_iff,pure,af]at h;obtain⟨l,h1,GG,h2,rfl⟩:=h;simp[tC h1,ih h2]
theorem uM{t:TypeId}{v:V1}{w:World}(h:nQ P t=some v):(zeroValue t).run P w = .ok (v.ae U ph) w:=by
 unfold nQ at h;cases hi:P.info? t with
 |none=>simp[hi]at h
 | some i=>
   cases hz:i.zero with
   |none=>simp[hi,hz]at h
   | some z=>
     simp only[hi,Option.bind_some,hz]at h;have:(zeroValue t).run P w = .ok z w:=by simp[zeroValue,typeInfo,hi,hz]
     rw[this];congr 1;split at h
     . rename_i cs e;simp only[bB]at h;obtain⟨ls,uz,rfl⟩:=h;simp only[af]at e;subst e;simp[V1.ae,zq uz]
     . rename_i u _ e;simp only[bB]at h;obtain⟨l,hl,rfl⟩:=h;simp only[af]at e;subst e;exact(tC hl).symm
     . rename_i e;cases e
theorem fo{t:TypeId}{w:World}(h:(P.info? t).isSome=true):(sizeOf t).run P w = .ok (P.cellsOf t) w:=by
 obtain⟨i,hi⟩:=Option.isSome_iff_exists.1 h;simp[sizeOf,typeInfo,hi,Program.cellsOf]
theorem run_places{w:World}:∀(fs:List Field),fs.all (fun f=>(P.info? f.type).isSome)=true->
   (fs.mapM fun(f:Field)=>(do pure (f.offset,<- sizeOf f.type):Sem (Nat×Nat))).run P w = .ok (fs.map fun(f:Field)=>(f.offset,P.cellsOf f.type)) w:=by
 intro fs;induction fs with
 |nil=>intro _;rfl
 | cons f fs ih=>
   intro h;simp only[List.all_cons,ao]at h;rw[List.mapM_cons];simp only[Sem.run_bind,fo h.1,Result.andThen_ok,Sem.run_pure,ih h.2,List.map_cons]
theorem run_build{t:TypeId}{parts:Array (Nat×Value)}{ps:List (Nat×V1)}{z r:List ah}{place:Nat->Option (Nat×Nat)}{w:World}(hz:nQ P t=some (.agg z))(hp:sM P t=some place)
   (hf:Ah place z ps=some r) (CU:parts.toList=ps.map fun p=>(p.1,p.2.ae U ph)):(Instr.build t parts).run P w = .ok (.agg (r.map (ah.ae U ph)).toArray) w:=by
 have Y2:=uM (U:=U) (ph:=ph) (w:=w) hz;have Te:=EV (U:=U) (ph:=ph) place ps z r hf;unfold sM at hp;simp only[Instr.build,Sem.run_bind,Y2,Result.andThen_ok,V1.fc,V1.leaves];split at hp
 . rename_i fs hu;split at hp
   . rename_i b8;simp only[af]at hp;subst hp;simp only[run_underlying hu,Result.andThen_ok,Sem.run_bind];have EI:=run_places (P:=P) (w:=w) fs.toList b8;have:(fs.mapM fun(f:Field)=>(do pure (f.offset,<- sizeOf f.type):Sem (Nat×Nat))).run P w = .ok (fs.map fun(f:Field)=>(f.offset,P.cellsOf f.type)) w:=by
       rw[Array.mapM_eq_mapM_toList];simp only[Sem.run_map,EI,Result.andThen_ok];congr 1;apply Array.ext';simp
     rw[this];simp only[Result.andThen_ok,CU];have e:(fun(x:Nat)=>(fs.map fun(f:Field)=>(f.offset,P.cellsOf f.type))[x]?)=fun(i:Nat)=>(fs[i]?).map fun(f:Field)=>(f.offset,P.cellsOf f.type):=by
       funext i;simp
     rw[e,Te];rfl
   . cases hp
 . rename_i n e hu;split at hp
   . rename_i hi;simp only[af]at hp;subst hp;simp only[run_underlying hu,Result.andThen_ok,Sem.run_bind,fo hi,CU,Te];rfl
   . cases hp
 . cases hp
theorem dN{o:Oper}{a:Act}{b:Builtin}{args:Array Operand}{KJ:Array TypeId}{w:World}{x:Value}(ho:o.op = .call {callee:=.builtin b,args,argTypes:=KJ})
   (hb:∀ts ty cs vs,builtin b ts ty cs vs=(do pure (.value (<- (match b with| .len=>Builtin.len_ ts ty vs| .max=>Builtin.max_ ts ty vs| .min=>Builtin.min_ ts ty vs|_=>Builtin.append_ ts ty vs)))))
   (hr:(match b with| .len=>Builtin.len_ KJ o.type (args.map a.eval)| .max=>Builtin.max_ KJ o.type (args.map a.eval)| .min=>Builtin.min_ KJ o.type (args.map a.eval)|_=>Builtin.append_ KJ o.type (args.map a.eval)).run P w = .ok x w) :
   (execOp a.eval o).run P w = .ok (.value x) w:=by
 simp only[execOp,ho,resolve,Sem.run_bind,Sem.run_pure,Result.andThen_ok,invoke,hb,hr]
theorem GI{args:Array Operand}{x y:Operand}(h:args.toList=[x,y])(f:Operand->Value):args.map f = #[f x,f y]:=by
 apply Array.ext';simp[h]
theorem Ai{args:Array Operand}{x y z:Operand}(h:args.toList=[x,y,z])(f:Operand->Value):args.map f = #[f x,f y,f z]:=by
 apply Array.ext';simp[h]
theorem oE{args:Array Operand}{x:Operand}(h:args.toList=[x])(f:Operand->Value):args.map f = #[f x]:=by
 apply Array.ext';simp[h]
theorem Ur(a b:Int):(if b>a then b else a)=Max.max a b:=by omega
theorem Us(a b:Int):(if b<a then b else a)=Min.min a b:=by omega
theorem C6{row sz:Nat}{i:IE}{j o:Nat}:(Bp row sz i j o).ae U ph=(ah.ep row sz i (j+o)).ae U ph:=by
 unfold Bp;split
 . simp only[ah.ae,IE.ae,Int.toNat_natCast,Nat.mul_one,Nat.add_zero,Nat.zero_add];rfl
 . rfl
theorem kt{c:Bool×Nat}:(oF c).ae U ph=kJ ph c:=by
 unfold oF kJ;split
 . simp only[ah.ae,IE.ae];cases(ph.v c.2).1 with
   |none=>rfl
   |some a=>simp[Addr.add_zero']
 . rfl
theorem Bq{st:St}{G:BE}{a:Act}(hG:G.ae U=true)(ht:fj U ph st.tmps a.tmps):∀ {xs:List Operand} {dg:List (Bool×Nat)},p9 st G xs=some dg->xs.map a.eval=dg.map (kJ ph):=by
 intro xs;induction xs with
 |nil=>intro dg h;simp only[p9,af]at h;subst h;rfl
 | cons x xs ih=>
   intro dg h;simp only[p9]at h;split at h
   . rename_i id l hx hl;simp only[af]at h;subst h;have:=kt (U:=U) (ph:=ph) (c:=(false,id));simp only[List.map_cons,ih hl,ay hx hG ht,<- this];rfl
   . rename_i row l hx hl;simp only[af]at h;subst h;have:=kt (U:=U) (ph:=ph) (c:=(true,row));simp only[List.map_cons,ih hl,ay hx hG ht,<- this];rfl
   . cases h
def GJ(st:St)(G:BE)(ph:Ph):Op->Option Nat
 |.load _ x=>(bl st G x).bind (mO ph)
 |_=>none
theorem GK{B:Nat}{wr:Bool}{st:St}{G:BE}{o:Oper}{ns:List BE}{sv:SV}{a:Act}{w w':World}(h:Ut P wr st G o.op=some (ns,sv))(hG:G.ae U=true)
   (hn:∀n∈ns,n.ae U=true) (ht:fj U ph st.tmps a.tmps) (hm:iW B U ph st.aT st.rows w) (hN:∀n∈st.aY,n.g.ae U=true->YX U ph n/\0<n.aK.length) (hw:∀k,GJ st G ph o.op=some k->w'.heap[k]?=w.heap[k]?) :
   (execOp a.eval o).run P w' = .ok (.value (sv.ae U ph)) w':=by
 unfold Ut at h;split at h
 ·
   rename_i x heq;simp only[bB,ax]at h;obtain⟨v,hv,rfl,rfl⟩:=h;simp only[execOp,heq,Sem.run_pure,pR hv hG ht]
 ·
   rename_i x heq;simp only[bB,ax]at h;obtain⟨v,hv,rfl,rfl⟩:=h;simp only[execOp,heq,Sem.run_pure,pR hv hG ht]
 ·
   rename_i c x y heq;split at h
   . rename_i p hp;split at h
     . rename_i bx by' hx hy
       simp only[af,ax]at h;obtain⟨rfl,rfl⟩:=h;have ec:=ay hp hG ht;simp only[ah.ae]at ec;have res:∀q:BE,q.ae U=(if p.ae U then bx.ae U else by'.ae U)->(execOp a.eval o).run P w' = .ok (.value (.bool (q.ae U))) w':=by
         intro q hq;simp only[execOp,heq,ec,asBool,Sem.run_bind,Sem.run_pure,Result.andThen_ok,hq];cases hpd:p.ae U with
         | true=>
           have:=ay hx (by rw[BE.cf];simp[BE.ae,hG,hpd]) ht
           simp[this,ah.ae]
         | false=>
           have:=ay hy (by rw[BE.cf];simp[BE.ae,BE.cf,hG,hpd]) ht
           simp[this,ah.ae]
       refine res _ ?_;split
       all_goals
         simp only[BE.cf,BE.ae];cases p.ae U<;>simp
     . cases h
   . cases h
 ·
   rename_i t x y u heq;split at h
   . rename_i k e k' e' h1 h2;simp only[bB,ax]at h;obtain⟨⟨oG,l⟩,hb,rfl,rfl⟩:=h;have:=xf (P:=P) (w:=w') (ph:=ph) t x y hb hn;simp only[execOp,heq,cz h1 hG ht,cz h2 hG ht,V1.ae];simp only[Sem.run_bind]at this ⊢;rw[this];rfl
   . rename_i e e' _ h1 h2;split at h
     . rename_i r hq;simp only[af,ax]at h;obtain⟨rfl,rfl⟩:=h;have:=(C3 (w':=w') hq hG hn hm).1;simp only[execOp,heq,cz h1 hG ht,cz h2 hG ht];simp only[Sem.run_bind]at this ⊢;rw[this];rfl
     . simp only[bB,ax]at h;obtain⟨p,hb,rfl,rfl⟩:=h;have:=(GF (P:=P) (w:=w') (U:=U) (ph:=ph) hb x y).1;simp only[execOp,heq,cz h1 hG ht,cz h2 hG ht];simp only[Sem.run_bind]at this ⊢;rw[this];rfl
   . cases h
 ·
   rename_i t x y u heq;split at h
   . rename_i k e k' e' h1 h2;simp only[bB,ax]at h;obtain⟨⟨oG,l⟩,hb,rfl,rfl⟩:=h;have:=xf (P:=P) (w:=w') (ph:=ph) t x y hb hn;simp only[execOp,heq,cz h1 hG ht,cz h2 hG ht,V1.ae];simp only[Sem.run_bind]at this ⊢;rw[this];rfl
   . rename_i e e' _ h1 h2;split at h
     . rename_i r hq;simp only[af,ax]at h;obtain⟨rfl,rfl⟩:=h;have:=(C3 (w':=w') hq hG hn hm).2;simp only[execOp,heq,cz h1 hG ht,cz h2 hG ht];simp only[Sem.run_bind]at this ⊢;rw[this];simp[SV.ae,V1.ae,ah.ae,BE.cf,BE.ae]
     . simp only[bB,ax]at h;obtain⟨p,hb,rfl,rfl⟩:=h;have:=(GF (P:=P) (w:=w') (U:=U) (ph:=ph) hb x y).2;simp only[execOp,heq,cz h1 hG ht,cz h2 hG ht];simp only[Sem.run_bind]at this ⊢;rw[this];simp[SV.ae,V1.ae,ah.ae,BE.cf,BE.ae]
   . cases h
 ·
   rename_i op t x y u _ _ heq;split at h
   . rename_i l1 l2 h1 h2;simp only[bB,ax]at h;obtain⟨⟨oG,l⟩,hb,rfl,rfl⟩:=h;have:=xf (P:=P) (w:=w') (ph:=ph) t x y hb hn;simp only[execOp,heq,ay h1 hG ht,ay h2 hG ht];simp only[Sem.run_bind]at this ⊢;rw[this];rfl
   . cases h
 ·
   rename_i t x heq;split at h
   . rename_i p hp;simp only[af,ax]at h;obtain⟨rfl,rfl⟩:=h;simp only[execOp,heq,ay hp hG ht,ah.ae,Op.unary,Sem.run_bind,Sem.run_pure,Result.andThen_ok,SV.ae,V1.ae,BE.cf,BE.ae]
   . cases h
 ·
   rename_i t x heq;split at h
   . rename_i k e he;simp only[af,ax]at h;obtain⟨rfl,rfl⟩:=h;have:=iX (U:=U) (ph:=ph) hn;simp only[execOp,heq,ay he hG ht,Op.unary,Op.intArith,SV.ae,V1.ae,this];simp[ah.ae,Op.unary,Op.intArith,IE.ae]
   . cases h
 ·
   rename_i src dst x heq;split at h
   . rename_i k e d k' he hs hd;have hk:P.intKind dst=k':=by simp[Program.intKind,hd]
     have cy:∀n:Int,(convert src dst (.int k n)).run P w' = .ok (.int k' (k'.wrap n)) w':=fun n=>by
       have:=run_convert_int (P:=P) w' src dst k n (by rw[hs];rfl) (by rw[hk];exact hd)
       rw[hk]at this;exact this
     split at h
     . simp only[af,ax]at h;obtain⟨rfl,rfl⟩:=h;have:=iX (U:=U) (ph:=ph) hn;simp only[SV.ae,V1.ae,this];simp only[execOp,heq,ay he hG ht,ah.ae,Sem.run_bind,cy,Result.andThen_ok,Sem.run_pure]
     . simp only[af,ax]at h;obtain⟨rfl,rfl⟩:=h;simp only[execOp,heq,ay he hG ht,ah.ae,Sem.run_bind,cy,Result.andThen_ok,Sem.run_pure,SV.ae,V1.ae,IE.cf,IE.ae]
   . cases h
 ·
   rename_i t x heq;split at h
   . rename_i l hl;simp only[bB,ax]at h;obtain⟨⟨oG,v⟩,hb,rfl,rfl⟩:=h;have:=Ae (w':=w') hb hG hn hm (fun k hk=>hw k (by simp[GJ,heq,hl,hk]))
     simp only[execOp,heq,ay hl hG ht,Sem.run_bind,this,Result.andThen_ok,Sem.run_pure,SV.ae]
   . cases h
 ·
   rename_i s x f heq;have hfo:∀o' t',qa P s f=some (o',t')->∀ad:Addr,(Instr.fieldAt s (.pointer (some ad)) f).run P w' = .ok (.pointer (some (ad.add o'))) w':=by
     intro o' t' ho ad;unfold qa at ho;split at ho
     . rename_i fs hu;split at ho
       . rename_i fd QJ;split at ho
         . cases ho
         . rename_i cx;simp only[af,ax]at ho;obtain⟨rfl,rfl⟩:=ho;simp only[Instr.fieldAt,Sem.run_bind,run_underlying hu,Result.andThen_ok,QJ,Instr.sureAddr,Sem.run_pure,fieldPlace,bZ (P:=P) (w:=w') (t:=fd.type) (by omega)]
           simp[cx]
       . cases ho
     . cases ho
   split at h
   . rename_i id off o' t' hx ho;simp only[af,ax]at h;obtain⟨rfl,rfl⟩:=h;simp only[execOp,heq,ay hx hG ht,ah.ae,Sem.run_bind,hfo _ _ ho,Result.andThen_ok,Sem.run_pure,SV.ae,V1.ae,iy]
   . rename_i id off sz n z o' t' hx ho;simp only[af,ax]at h;obtain⟨rfl,rfl⟩:=h;simp only[execOp,heq,ay hx hG ht,ah.ae,Sem.run_bind,hfo _ _ ho,Result.andThen_ok,Sem.run_pure,SV.ae,V1.ae,iy];rw[show off+(z.ae U).toNat*sz+o'=off+o'+(z.ae U).toNat*sz by omega]
   . rename_i row sz z j o' t' hx ho;split at h
     . rename_i r hr;split at h
       . rename_i hc;simp only[af,ax]at h;obtain⟨rfl,rfl⟩:=h;obtain⟨bd,rfl⟩:=aU hr;have h0:=bS (hn _ (aO ..));have h1:=eM (hn _ (bp _ (aO ..)));simp only[IE.ae]at h0 h1;obtain⟨ad,cap,iH,_⟩:=iz (hm.row r bd (BE.cD hc hG)) h0 h1;simp only[SV.ae,V1.ae,C6];simp only[execOp,heq,ay hx hG ht,ah.ae,iH,Sem.run_bind,hfo _ _ ho,Result.andThen_ok,Sem.run_pure,gg,Nat.add_assoc]
       . cases h
     . split at h
       . rename_i r hr;split at h
         . rename_i hc;simp only[af,ax]at h;obtain⟨rfl,rfl⟩:=h;obtain⟨bd,rfl⟩:=cS hr;have h0:=bS (hn _ (aO ..));have h1:=eM (hn _ (bp _ (aO ..)));simp only[IE.ae]at h0 h1;obtain⟨⟨base,cap,iH,_,ke⟩,_⟩:=hN r bd (BE.cD hc hG);cases base with
           |none=>have:=(ke rfl).1;omega
           |some ad=>
           have Bn:ph.v r.id=(some ad,(U r.lv).list.length,cap):=by
             simp only[Ph.val,Value.slice.injEq]at iH;exact Prod.ext iH.1 (Prod.ext iH.2.1 iH.2.2)
           simp only[execOp,heq,ay hx hG ht,SV.ae,V1.ae,ah.ae,Bn,Sem.run_bind,hfo _ _ ho,Result.andThen_ok,Sem.run_pure,gg,Nat.add_assoc]
         . cases h
       . cases h
   . cases h
 ·
   rename_i s x f heq;split at h
   . rename_i cs o' t' hx ho;simp only[bB,ax]at h;obtain⟨v,hv,rfl,rfl⟩:=h;unfold qa at ho;split at ho
     . rename_i fs hu;split at ho
       . rename_i fd QJ;split at ho
         . cases ho
         . simp only[af,ax]at ho;obtain⟨rfl,rfl⟩:=ho;simp only[execOp,heq,cz hx hG ht,V1.ae,Instr.field,Sem.run_bind,run_underlying hu,Result.andThen_ok,QJ,asAgg,Sem.run_pure,uJ hv,SV.ae]
       . cases ho
     . cases ho
   . cases h
 ·
   rename_i t x i heq;split at h
   . rename_i l k e hl hi;simp only[bB,ax]at h;obtain⟨⟨oG,l'⟩,hb,rfl,rfl⟩:=h;simp only[execOp,heq,ay hl hG ht,ay hi hG ht,Sem.run_bind,SV.ae,V1.ae];have:(Instr.indexAt t (l.ae U ph) ((ah.i k e).ae U ph)).run P w' = .ok (l'.ae U ph) w':=by
       unfold KK at hb;split at hb
       . rename_i len el id off hu;have he:P.elem t=el:=by simp[Program.elem,hu]
         have hlen:P.arrayLen t=len:=by simp[Program.arrayLen,hu]
         split at hb
         . rename_i n;split at hb
           . rename_i hc;simp only[af,ax]at hb;obtain⟨rfl,rfl⟩:=hb;simp only[ah.ae,IE.ae];rw[run_indexAt_array w' t _ k n (by rw[he,hlen];exact hu),he,hlen,if_pos ⟨hc.1,hc.2.1⟩]
             rw[fo hc.2.2.2];simp only[Result.andThen_ok,iy]
           . cases hb
         . rename_i cx;split at hb
           . rename_i hc;simp only[af,ax]at hb;obtain⟨rfl,rfl⟩:=hb;have h0:=bS (hn _ (aO ..));have h1:=eM (hn _ (bp _ (aO ..)));simp only[IE.ae]at h0 h1;simp only[ah.ae];rw[run_indexAt_array w' t _ k _ (by rw[he,hlen];exact hu),he,hlen,if_pos ⟨h0,h1⟩]
             rw[fo hc.2];simp only[Result.andThen_ok,iy]
           . cases hb
       . rename_i len el row sz r j hu;have he:P.elem t=el:=by simp[Program.elem,hu]
         have hlen:P.arrayLen t=len:=by simp[Program.arrayLen,hu]
         split at hb
         . rename_i rq hrq;split at hb
           . rename_i hc;obtain⟨rfl,rfl,Qb,hc4,hc5,hc6,hc7⟩:=hc;simp only[af,ax]at hb;obtain⟨rfl,rfl⟩:=hb;obtain⟨bd,rfl⟩:=aU hrq;have h0:=bS (hn _ (aO ..));have h1:=eM (hn _ (bp _ (aO ..)));have h2:=eM (hn _ (bp _ (bp _ (aO ..))));simp only[IE.ae]at h0 h1 h2;obtain⟨ad,cap,iH,_⟩:=iz (hm.row rq bd (BE.cD hc7 hG)) h0 h2;simp only[ah.ae,IE.ae,iH];rw[run_indexAt_array w' t _ k _ (by rw[he,hlen];exact hu),he,hlen,if_pos ⟨h0,h1⟩]
             rw[fo hc5];simp only[Result.andThen_ok,gg,hc4,Int.toNat_zero,Nat.zero_mul,Nat.zero_add,Nat.add_zero]
           . split at hb
             . rename_i n;split at hb
               . rename_i rr Aj;split at hb
                 . rename_i hc;simp only[af,ax]at hb;obtain⟨rfl,rfl⟩:=hb;simp only[af]at Aj;subst Aj;obtain⟨bd,rfl⟩:=aU hrq;have h0:=bS (hn _ (aO ..));have h1:=eM (hn _ (bp _ (aO ..)));simp only[IE.ae]at h0 h1;obtain⟨ad,cap,iH,_⟩:=iz (hm.row rq bd (BE.cD hc.2.2.2.2 hG)) h0 h1;simp only[ah.ae,IE.ae,iH];rw[run_indexAt_array w' t _ k n (by rw[he,hlen];exact hu),he,hlen,if_pos ⟨hc.1,hc.2.1⟩]
                   rw[fo hc.2.2.2.1];simp only[Result.andThen_ok,gg,Nat.add_assoc]
                 . cases hb
               . cases hb
             . cases hb
         . cases hb
       . rename_i el row hu;have he:P.elem t=el:=by simp[Program.elem,hu]
         split at hb
         . rename_i r hr;split at hb
           . rename_i hc;simp only[ao,aC]at hc;simp only[af,ax]at hb;obtain⟨rfl,rfl⟩:=hb;obtain⟨bd,rfl⟩:=aU hr;have h0:=bS (hn _ (aO ..));have h1:=eM (hn _ (bp _ (aO ..)));simp only[IE.ae]at h0 h1;have bc:=hm.row r bd (BE.cD hc.1 hG);obtain⟨ad,cap,iH,_⟩:=iz bc h0 h1;simp only[ah.ae,IE.ae,Ph.val,iH];rw[run_indexAt_slice w' t ad _ cap k _ (by rw[he];exact hu),he,if_pos ⟨h0,h1⟩]
             rw[bZ (by rw[hc.2];exact bc.1),hc.2]
             simp only[Result.andThen_ok,Nat.add_zero]
           . cases hb
         . split at hb
           . rename_i r hr;split at hb
             . rename_i hc;simp only[ao,aC]at hc;simp only[af,ax]at hb;obtain⟨rfl,rfl⟩:=hb;obtain⟨bd,rfl⟩:=cS hr;have h0:=bS (hn _ (aO ..));have h1:=eM (hn _ (bp _ (aO ..)));simp only[IE.ae]at h0 h1;obtain⟨⟨base,cap,iH,_,ke⟩,lh⟩:=hN r bd (BE.cD hc.1 hG);cases base with
               |none=>have:=(ke rfl).1;omega
               |some ad=>
               have Bn:ph.v r.id=(some ad,(U r.lv).list.length,cap):=by
                 simp only[Ph.val,Value.slice.injEq]at iH;exact Prod.ext iH.1 (Prod.ext iH.2.1 iH.2.2)
               simp only[ah.ae,IE.ae,Ph.val,Bn];rw[run_indexAt_slice w' t ad _ cap k _ (by rw[he];exact hu),he,if_pos ⟨h0,h1⟩]
               rw[bZ (by rw[hc.2];exact lh),hc.2]
               simp only[Result.andThen_ok,Nat.add_zero]
             . cases hb
           . cases hb
       . rename_i el row sz lo n hu;split at hb
         . rename_i r hr;split at hb
           . rename_i hc;simp only[ao,aC]at hc;simp only[af,ax]at hb;obtain⟨rfl,rfl⟩:=hb;obtain⟨bd,rfl⟩:=aU hr;have h0:=bS (hn _ (aO ..));have h1:=eM (hn _ (bp _ (aO ..)));have h2:=bS (hn _ (bp _ (bp _ (aO ..))));have h3:=bS (hn _ (bp _ (bp _ (bp _ (aO ..)))));simp only[IE.ae]at h0 h1 h2 h3;exact KH (hm.row r bd (BE.cD hc.1.1 hG)) hu hc.1.2 hc.2 h2 h3 h0 h1
           . cases hb
         . cases hb
       . rename_i el row bs hu;split at hb
         . rename_i r hr;split at hb
           . rename_i hc;simp only[ao,aC]at hc;split at hb
             . rename_i m;split at hb
               . rename_i tw;simp only[bB,ax]at hb;obtain⟨b,_,rfl,rfl⟩:=hb;obtain⟨bd,rfl⟩:=aU hr;have h1:=eM (hn _ (aO ..));simp only[IE.ae]at h1;exact KI (hm.row r bd (BE.cD hc.1.1 hG)) hu hc.1.2 hc.2 tw h1
               . cases hb
             . cases hb
           . cases hb
         . cases hb
       . rename_i el id n sz hu;split at hb
         . rename_i hc;simp only[ao,aC]at hc;split at hb
           . rename_i m;split at hb
             . rename_i tw;simp only[af,ax]at hb;obtain⟨rfl,rfl⟩:=hb;simp only[ah.ae,IE.ae];rw[nO hu tw.1 tw.2 hc.2,hc.1,iy,Nat.zero_add]
             . cases hb
           . simp only[af,ax]at hb;obtain⟨rfl,rfl⟩:=hb;have h0:=bS (hn _ (aO ..));have h1:=eM (hn _ (bp _ (aO ..)));simp only[IE.ae]at h0 h1;simp only[ah.ae];rw[nO hu h0 h1 hc.2,hc.1,iy]
         . cases hb
       . cases hb
     rw[this];rfl
   . cases h
 ·
   rename_i t x i heq;split at h
   . rename_i cs k n len el hx hi hu;split at h
     . rename_i hc;simp only[bB,ax]at h;obtain⟨v,hv,rfl,rfl⟩:=h;obtain⟨nM,_⟩:=lY hv;simp only[execOp,heq,cz hx hG ht,ay hi hG ht,V1.ae,ah.ae,IE.ae,Instr.index,asIntOf,Sem.run_bind,Sem.run_pure,Result.andThen_ok,run_underlying hu];simp only[hc,and_self,if_true,Sem.run_bind,bZ nM.2.1,Result.andThen_ok,uJ hv,Sem.run_pure,SV.ae]
     . cases h
   . rename_i cs k xi len el cx hx hi hu;split at h
     . rename_i hc;simp only[ao,aC,Bool.not_eq_true']at hc;obtain⟨⟨⟨Y3,hna⟩,mJ⟩,hlen⟩:=hc;simp only[bB,ax]at h;obtain⟨l,hl,rfl,rfl⟩:=h;have h0:=bS (hn _ (aO ..));have h1:=eM (hn _ (bp _ (aO ..)));simp only[IE.ae]at h0 h1;obtain⟨l',tu,he⟩:=uK (U:=U) (ph:=ph) hl h0 h1;rw[Nat.mul_one,Nat.zero_add]at tu;simp only[execOp,heq,cz hx hG ht,ay hi hG ht,V1.ae,ah.ae,IE.ae,Instr.index,asIntOf,Sem.run_bind,Sem.run_pure,Result.andThen_ok,run_underlying hu];have hp:pT P el cs (xi.ae U).toNat=some (.one l'):=by
         simp[pT,Y3,mJ,hna,tu]
       have:=uJ (U:=U) (ph:=ph) (w:=w') hp;simp only[h0,h1,and_self,if_true,Sem.run_bind,bZ (show 0<P.cellsOf el by omega),Result.andThen_ok,mJ,Nat.mul_one,this,Sem.run_pure,SV.ae,V1.ae,he]
     . cases h
   . rename_i bs k n hx hi hu;split at h
     . rename_i jf;simp only[bB,ax]at h;obtain⟨b,hb,rfl,rfl⟩:=h;simp only[execOp,heq,cz hx hG ht,ay hi hG ht,V1.ae,ah.ae,IE.ae,Instr.index,asIntOf,Sem.run_bind,Sem.run_pure,Result.andThen_ok,run_underlying hu];simp only[jf,if_true,Ih,hb,Sem.run_pure,Result.andThen_ok,SV.ae,V1.ae,ah.ae,IE.ae]
     . cases h
   . cases h
 ·
   rename_i x heq;split at h
   . rename_i id off hx;simp only[af,ax]at h;obtain⟨rfl,rfl⟩:=h;simp only[execOp,heq,ay hx hG ht,ah.ae,Sem.run_pure,SV.ae,V1.ae]
   . rename_i row sz i j hx;split at h
     . rename_i r hr;split at h
       . rename_i hc;simp only[af,ax]at h;obtain⟨rfl,rfl⟩:=h;have h1:=eM (hn _ (aO ..));simp only[IE.ae]at h1;obtain⟨bd,rfl⟩:=aU hr;obtain⟨ad,cap,iH,_⟩:=iz (hm.row r bd (BE.cD hc hG)) (i:=0) (Int.le_refl _) h1;simp only[execOp,heq,ay hx hG ht,ah.ae,iH,Sem.run_pure,SV.ae,V1.ae]
       . cases h
     . cases h
   . cases h
 ·
   rename_i g first captured heq
   split at h
   . rename_i hf;simp only[bB,ax]at h;obtain⟨dg,hc,rfl,rfl⟩:=h;have e:=Bq hG ht hc;have e1:first.map a.eval = #[]:=by apply Array.ext';simp[hf]
     have e2:captured.map a.eval=(dg.map (kJ ph)).toArray:=by apply Array.ext';simpa using e
     simp only[execOp,heq,Instr.makeFunc,e1,e2,Sem.run_bind,Sem.run_pure,Result.andThen_ok,SV.ae,V1.ae,ah.ae]
   . rename_i x hf;split at h
     . rename_i KA;have e1:first.map a.eval = #[a.eval x]:=by apply Array.ext';simp[hf]
       have e2:captured.map a.eval = #[]:=by apply Array.ext';simp[KA]
       split at h
       . rename_i l hl;simp only[bB,ax]at h;obtain⟨l0,hd,rfl,rfl⟩:=h;have e3:=cz hl hG ht;rw[ah.down_up hd]at e3;simp only[V1.ae]at e3;rw[c8.Bi]at e3;simp only[execOp,heq,Instr.makeFunc,e1,e2,e3,Sem.run_bind,Sem.run_pure,Result.andThen_ok,SV.ae,V1.ae,ah.ae];simp
       . rename_i ls hl;simp only[bB,ax]at h;obtain⟨l0,hd,rfl,rfl⟩:=h;have e3:=cz hl hG ht;simp only[V1.ae,Ii (U:=U) (ph:=ph) hd]at e3;simp only[execOp,heq,Instr.makeFunc,e1,e2,e3,Sem.run_bind,Sem.run_pure,Result.andThen_ok,SV.ae,V1.ae,ah.ae];simp
       . cases h
     . cases h
   . cases h
 ·
   rename_i t x low high cap heq;split at h
   . rename_i el row hu hx;split at h
     . rename_i r hr;split at h
       . rename_i hc;simp only[ao,aC]at hc;obtain⟨⟨⟨hg,mJ⟩,hre⟩,akz⟩:=hc;obtain⟨bd,rfl⟩:=aU hr;have bc:=hm.row r bd (BE.cD hg hG);obtain⟨base,cp,hv,⟨_,Y4⟩,ke,_⟩:=bc.reads;have tv:ph.v r.id=(base,(U r.lv).list.length,cp):=by
           simp only[Ph.val,Value.slice.injEq]at hv;exact Prod.ext hv.1 (Prod.ext hv.2.1 hv.2.2)
         have lh:0<P.cellsOf el:=by rw[mJ];exact bc.1
         split at h
         . rename_i l;split at h
           . rename_i kl lo tD;simp only[af,ax]at h;obtain⟨rfl,rfl⟩:=h;have h0:=bS (hn _ (aO ..));have h1:=bS (hn _ (bp _ (aO ..)));simp only[IE.ae]at h0 h1;simp only[execOp,heq,ay hx hG ht,Option.map_some,Option.map_none,ay tD hG ht,SV.ae,V1.ae,Sem.run_bind];have:=Ag (P:=P) (w:=w') (t:=t) (e:=el) hu (base:=base) (len:=(U r.lv).list.length) (cap:=cp) (lo:=lo.ae U) (hi:=((U r.lv).list.length:Int)) (kl:=kl) none rfl (by simp) h0 h1 (by omega) lh
             simp only[ah.ae,Ph.val,tv]at this ⊢;rw[this];simp only[Result.andThen_ok,Sem.run_pure,IE.cf,IE.ae,mJ]
           . cases h
         . rename_i l hh;split at h
           . rename_i kl lo kh hi tD Tf;simp only[af,ax]at h;obtain⟨rfl,rfl⟩:=h;have h0:=bS (hn _ (aO ..));have h1:=bS (hn _ (bp _ (aO ..)));have h2:=bS (hn _ (bp _ (bp _ (aO ..))));simp only[IE.ae]at h0 h1 h2;simp only[execOp,heq,ay hx hG ht,Option.map_some,Option.map_none,ay tD hG ht,ay Tf hG ht,SV.ae,V1.ae,Sem.run_bind];have:=Ag (P:=P) (w:=w') (t:=t) (e:=el) hu (base:=base) (len:=(U r.lv).list.length) (cap:=cp) (lo:=lo.ae U) (hi:=hi.ae U) (kl:=kl) (some (.int kh (hi.ae U))) rfl (by intro v hv;simp at hv;exact⟨kh,hv.symm⟩) h0 h1 (by omega) lh
             simp only[ah.ae,Ph.val,tv]at this ⊢;rw[this];simp only[Result.andThen_ok,Sem.run_pure,IE.cf,IE.ae,mJ]
           . cases h
         . rename_i hh mm;split at h
           . rename_i kh hi km mx Tf Qc;simp only[af,ax]at h;obtain⟨rfl,rfl⟩:=h;have h0:=hn _ (aO ..);have h1:=hn _ (bp _ (aO ..));rw[BE.cf]at h0 h1;have h0:hi.ae U=((U r.lv).list.length:Int):=of_decide_eq_true h0;have h1:mx.ae U=((U r.lv).list.length:Int):=of_decide_eq_true h1;simp only[execOp,heq,ay hx hG ht,Option.map_some,Option.map_none,ay Tf hG ht,ay Qc hG ht,SV.ae,V1.ae,Sem.run_bind];have:=EU (P:=P) (w:=w') (t:=t) (e:=el) hu (base:=base) (len:=(U r.lv).list.length) (cap:=cp) (kh:=kh) (km:=km) Y4 lh;simp only[ah.ae,Ph.val,tv,h0,h1]at this ⊢;rw[this];simp only[Result.andThen_ok,Sem.run_pure]
           . cases h
         . cases h
       . cases h
     . cases h
   . rename_i bs hu hx;split at h
     . rename_i l;split at h
       . rename_i kl lo tD;split at h
         . rename_i hc;simp only[af,ax]at h;obtain⟨rfl,rfl⟩:=h;simp only[execOp,heq,ay hx hG ht,Option.map_some,Option.map_none,ay tD hG ht,SV.ae,V1.ae,ah.ae,IE.ae,Sem.run_bind];rw[C5 hu hc.1 hc.2];rfl
         . cases h
       . cases h
     . rename_i hh;split at h
       . rename_i kh hi Tf;split at h
         . rename_i hc;simp only[af,ax]at h;obtain⟨rfl,rfl⟩:=h;simp only[execOp,heq,ay hx hG ht,Option.map_some,Option.map_none,ay Tf hG ht,SV.ae,V1.ae,ah.ae,IE.ae,Sem.run_bind];rw[Ij hu hc.1 hc.2];rfl
         . cases h
       . cases h
     . cases h
   . cases h
 ·
   rename_i t x heq;split at h
   . rename_i len el hu;split at h
     . rename_i lh;split at h
       . rename_i row hx;split at h
         . rename_i r hr;split at h
           . rename_i hc;simp only[ao,aC]at hc;simp only[af,ax]at h;obtain⟨rfl,rfl⟩:=h;obtain⟨bd,rfl⟩:=aU hr;have h0:=bS (hn _ (aO ..));simp only[IE.ae]at h0;obtain⟨ad,cp,iH,_⟩:=iz (hm.row r bd (BE.cD hc.1 hG)) (i:=0) (Int.le_refl _) (by omega)
             simp only[execOp,heq,ay hx hG ht,ah.ae,Ph.val,iH,Sem.run_bind,run_arrayAt w' t el len _ _ _ hu (show len<=(U r.lv).list.length by omega),Result.andThen_ok,Sem.run_pure,SV.ae,V1.ae,IE.ae]
             simp[Addr.add_zero']
           . cases h
         . cases h
       . rename_i row lo n hx;split at h
         . rename_i r hr;split at h
           . rename_i hc;simp only[ao,aC]at hc;simp only[af,ax]at h;obtain⟨rfl,rfl⟩:=h;obtain⟨bd,rfl⟩:=aU hr;have h0:=bS (hn _ (aO ..));have h1:=bS (hn _ (bp _ (aO ..)));have h2:=bS (hn _ (bp _ (bp _ (aO ..))));simp only[IE.ae]at h0 h1 h2;obtain⟨ad,cp,iH,hd⟩:=KG (sz:=1) (hm.row r bd (BE.cD hc.1 hG)) h1 (by omega) h2
             simp only[execOp,heq,ay hx hG ht,hd,Sem.run_bind,run_arrayAt w' t el len _ _ _ hu (show len<=(n.ae U).toNat by omega),Result.andThen_ok,Sem.run_pure,SV.ae,V1.ae]
             simp only[ah.ae,iH,Nat.add_zero]
           . cases h
         . cases h
       . cases h
     . cases h
   . cases h
 ·
   rename_i x n heq;split at h
   . rename_i xs hx;simp only[bB,ax]at h;obtain⟨v,hv,rfl,rfl⟩:=h;simp only[execOp,heq,pR hx hG ht,SV.ae,Instr.extract,List.getElem?_toArray,List.getElem?_map,hv,Option.map_some,Sem.run_bind,Sem.run_pure,Result.andThen_ok]
   . cases h
 ·
   rename_i t parts heq;split at h
   . rename_i z place ps hz hp CU;simp only[bB,ax]at h;obtain⟨cs,iu,rfl,rfl⟩:=h;have e:=nw hG ht CU;have:=run_build (U:=U) (ph:=ph) (w:=w') (parts:=parts.map fun(i,x)=>(i,a.eval x)) hz hp iu (by rw[Array.toList_map];exact e)
     simp only[execOp,heq,Sem.run_bind,this,Result.andThen_ok,Sem.run_pure,SV.ae,V1.ae]
   . cases h
 ·
   rename_i args KJ heq;split at h
   . rename_i x el eK Ig;have Uu:∃t,KJ[0]?=some t/\P.underlying t=some (.slice el):=by
       simp only[Option.bind_eq_some_iff]at Ig;exact Ig
     obtain⟨t,ht0,htu⟩:=Uu;have he:P.elem t=el:=by simp[Program.elem,htu]
     have cy:∀b n c,(Builtin.len_ KJ o.type #[.slice b n c]).run P w' = .ok (goInt n) w':=fun b n c=>by
       simp[Builtin.len_,ht0,run_underlying htu]
     split at h
     . rename_i row bc;split at h
       . rename_i r hr;split at h
         . rename_i hg;simp only[af,ax]at h;obtain⟨rfl,rfl⟩:=h;obtain⟨bd,rfl⟩:=aU hr;obtain⟨base,cap,hv,_⟩:=(hm.row r bd (BE.cD hg hG)).reads;refine dN heq (fun _ _ _ _=>rfl) ?_
           simp only[oE eK,ay bc hG ht,ah.ae,hv,cy];rfl
         . cases h
       . split at h
         . rename_i r hr;split at h
           . rename_i hg;simp only[af,ax]at h;obtain⟨rfl,rfl⟩:=h;obtain⟨bd,rfl⟩:=cS hr;obtain⟨⟨base,cap,hv,_⟩,_⟩:=hN r bd (BE.cD hg hG);refine dN heq (fun _ _ _ _=>rfl) ?_
             simp only[oE eK,ay bc hG ht,ah.ae,hv,cy];rfl
           . cases h
         . cases h
     . rename_i sO;simp only[af,ax]at h;obtain⟨rfl,rfl⟩:=h;refine dN heq (fun _ _ _ _=>rfl) ?_
       simp only[oE eK,ay sO hG ht,ah.ae,cy];rfl
     . rename_i row szz lo n bc;split at h
       . split at h
         . simp only[af,ax]at h;obtain⟨rfl,rfl⟩:=h;have h0:=bS (hn _ (aO ..));simp only[IE.ae]at h0;refine dN heq (fun _ _ _ _=>rfl) ?_
           simp only[oE eK,ay bc hG ht,ah.ae,cy,SV.ae,V1.ae,goInt];rw[Int.toNat_of_nonneg h0]
         . cases h
       . cases h
     . rename_i id n szz bc;simp only[af,ax]at h;obtain⟨rfl,rfl⟩:=h;refine dN heq (fun _ _ _ _=>rfl) ?_
       simp only[oE eK,ay bc hG ht,ah.ae,cy];rfl
     . rename_i row bs bc;split at h
       . rename_i r hr;split at h
         . rename_i hg;simp only[af,ax]at h;obtain⟨rfl,rfl⟩:=h;have h0:=hn _ (aO ..);rw[BE.cf]at h0;have h0:((U r.lv).list.length:Int)=(bs.length:Int):=of_decide_eq_true h0;obtain⟨bd,rfl⟩:=aU hr;obtain⟨base,cap,hv,_⟩:=(hm.row r bd (BE.cD hg hG)).reads;refine dN heq (fun _ _ _ _=>rfl) ?_
           simp only[oE eK,ay bc hG ht,ah.ae,hv,cy,SV.ae,V1.ae,IE.ae,goInt,h0]
         . cases h
       . cases h
     . cases h
   . rename_i x eK Ig;have Uu:∃t,KJ[0]?=some t/\P.underlying t=some .string:=by
       simp only[Option.bind_eq_some_iff]at Ig;exact Ig
     obtain⟨t,ht0,htu⟩:=Uu;split at h
     . rename_i bs hx;simp only[af,ax]at h;obtain⟨rfl,rfl⟩:=h;refine dN heq (fun _ _ _ _=>rfl) ?_
       simp[oE eK,ay hx hG ht,ah.ae,Builtin.len_,ht0,run_underlying htu,sL,SV.ae,V1.ae,IE.ae,goInt]
     . cases h
   . cases h
 ·
   rename_i args KJ heq;split at h
   . rename_i x y eK;split at h
     . rename_i k e1 k' e2 hx hy;split at h
       . rename_i hk;subst hk;simp only[af,ax]at h;obtain⟨rfl,rfl⟩:=h;refine dN heq (fun _ _ _ _=>rfl) ?_
         simp only[GI eK,ay hx hG ht,ay hy hG ht,ah.ae,run_max_int2,Ur];simp[SV.ae,V1.ae,ah.ae,IE.cf,IE.ae]
       . cases h
     . cases h
   . rename_i x y z eK;split at h
     . rename_i k e1 k' e2 Y5 e3 hx hy hz;split at h
       . rename_i hk;obtain⟨rfl,rfl⟩:=hk;simp only[af,ax]at h;obtain⟨rfl,rfl⟩:=h;refine dN heq (fun _ _ _ _=>rfl) ?_
         simp only[Ai eK,ay hx hG ht,ay hy hG ht,ay hz hG ht,ah.ae];simp[Builtin.max_,Builtin.max2,List.foldlM,SV.ae,V1.ae,ah.ae,IE.cf,IE.ae];omega
       . cases h
     . cases h
   . cases h
 ·
   rename_i args KJ heq;split at h
   . rename_i x y eK;split at h
     . rename_i k e1 k' e2 hx hy;split at h
       . rename_i hk;subst hk;simp only[af,ax]at h;obtain⟨rfl,rfl⟩:=h;refine dN heq (fun _ _ _ _=>rfl) ?_
         simp only[GI eK,ay hx hG ht,ay hy hG ht,ah.ae,run_min_int2,Us];simp[SV.ae,V1.ae,ah.ae,IE.cf,IE.ae]
       . cases h
     . cases h
   . rename_i x y z eK;split at h
     . rename_i k e1 k' e2 Y5 e3 hx hy hz;split at h
       . rename_i hk;obtain⟨rfl,rfl⟩:=hk;simp only[af,ax]at h;obtain⟨rfl,rfl⟩:=h;refine dN heq (fun _ _ _ _=>rfl) ?_
         simp only[Ai eK,ay hx hG ht,ay hy hG ht,ay hz hG ht,ah.ae];simp[Builtin.min_,Builtin.min2,List.foldlM,SV.ae,V1.ae,ah.ae,IE.cf,IE.ae];omega
       . cases h
     . cases h
   . cases h
 . cases h
end Go.Sx
