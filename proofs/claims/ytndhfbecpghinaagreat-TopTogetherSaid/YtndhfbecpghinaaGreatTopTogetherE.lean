/- What the proof of the statement about TopTogether stands on, part E. Conditions: as each statement says. -/
import Derived.Test.YtndhfbecpghinaaGreatTopTogetherD
import Derived.Test.YtndhfbecpghinaaGreatProg
namespace Go.Proofs.YtndhfbecpghinaaGreat.L
open Go Go.Proofs
set_option maxRecDepth 100000
section
attribute [local irreducible] Code.wp wpList Af bodyPost L.Go
open Num
def S3:List F2:=[bc,ac,Kf.K2.zero,Kf.K2.one]
def B2:List F2:=[k2 4 4]
def q22:List F2:=[k2 4002409555221667393417789825735904156556882819939007885332058136124031650490837864442687629129015664037894272554603 0,k2 4002409555221667393417789825735904156556882819939007885332058136124031650490837864442687629129015664037894272558059 4002409555221667393417789825735904156556882819939007885332058136124031650490837864442687629129015664037894272558059,k2 0 4002409555221667393417789825735904156556882819939007885332058136124031650490837864442687629129015664037894272559355,k2 24 4002409555221667393417789825735904156556882819939007885332058136124031650490837864442687629129015664037894272559763,k2 1 0]
theorem R6:jV Q2 Q2=q22:=by decide +kernel
def EL:List F2:=[k2 0 373248,k2 4002409555221667393417789825735904156556882819939007885332058136124031650490837864442687629129015664037894272373163 186624,k2 4002409555221667393417789825735904156556882819939007885332058136124031650490837864442687629129015664037894272482027 0,k2 4002409555221667393417789825735904156556882819939007885332058136124031650490837864442687629129015664037894272551147 4002409555221667393417789825735904156556882819939007885332058136124031650490837864442687629129015664037894272551147,k2 0 4002409555221667393417789825735904156556882819939007885332058136124031650490837864442687629129015664037894272558707,k2 36 4002409555221667393417789825735904156556882819939007885332058136124031650490837864442687629129015664037894272559751,k2 1 0]
theorem MD:jV q22 Q2=EL:=by decide +kernel
def q11:List F2:=[k2 0 49412463644711943128614689206616100698233121233814912164593310322518909265318985980773921347271798321455484848699,k2 741186954670679146929220338099241510473496818507223682468899654837783638979784789711608820209076974821832272696437 3261222600550988246488569487636662646083386001431784202863158481286248011511053074731078808919938689216061999863350,k2 1185899127473086635086752540958786416757594909611557891950239447740453822367655663538574112334523159714931636314184 0,k2 642362027381255260671990959686009309077030576039593858139713034192745820449146817750060977514533378178921303003423 642362027381255260671990959686009309077030576039593858139713034192745820449146817750060977514533378178921303003423,k2 0 3261222600550988246488569487636662646083386001431784202863158481286248011511053074731078808919938689216061999863526,k2 1482373909341358293858440676198483020946993637014447364937799309675567277959569579423217640418153949643664545392514 2520035645880309099559349149537421135609889182924560520394258826448464372531268285019469988710861714394229727167273,k2 395299709157695545028917513652928805585864969870519297316746482580151274122551887846191370778174386571643878771337 0]
theorem R5:jV Q1 Q1=q11:=by decide +kernel
def MB:List F2:=[k2 2778078511580471469231003637616416328145106593812260617253801669243840898694600767363511577968836661184052814621486 1224331043641195924186786188119487828411776226126747268078256466880190751796237097079176051160179002853841457938301,k2 395299709157695545028917513652928805585864969870519297316746482580151274122551887846191370778174386571643878789592 0,k2 1235311591117798578215367230165402517455828030845372804114832758062972731632974649519348033681794958036387121168835 1235311591117798578215367230165402517455828030845372804114832758062972731632974649519348033681794958036387121168835,k2 0 3574168203634163886303129185945231283838862435912611979905582779995534436858073319275980310785993411918613403890177,k2 840011881960103033186449716512473711869963060974853506798086275482821457510422761673156662903620571464743242389483 3162397673261564360231340109223430444686919758964154378533971860641210192980415102769530966225395092573151030170304,k2 3508284918774547962131642933669743149574551607600858763686125032898842557837648004634948415656297680823339424095645 0,k2 1811790333639437914715871937575923692268547778573213446035088045159026673061696152628377116066632605120034444368622 1811790333639437914715871937575923692268547778573213446035088045159026673061696152628377116066632605120034444368622,k2 0 2915335355038004644588266663190349941195754152795079817711005309028615646653820172865661359489036100965873605938609,k2 1581198836630782180115670054611715222343459879482077189266985930320605096490207551384765483112697546286575515085348 2421210718590885213302119771124188934213422940456930696065072205803426554000630313057922146016318117751318757474439,k2 3156907399523263033217049588200473100164893856604841610515683715049819203062046326549444974964587114981878198521094 0]
theorem MC:jV q11 Q1=MB:=by decide +kernel
def q33:List F2:=[k2 0 1998459640741683033201749652356473406017428458789847558656884995266320330286234544111300818934103843223310720456644,k2 1597669657845686161158541617680587255909537586560015493321850367094778066245313880045023456895121479060394010033609 2404739897375981232259248208055316900647345233378992392010207769029253584245523984397664172233894184977500262526178,k2 3952997091576955450289175136529288055858649698705192973167464825801512741225518878461913707781743865716438787713200 0,k2 1685514037658507393387189954047904768261952024309019781614460696557033904939214299566399317068049120520759316427769 1685514037658507393387189954047904768261952024309019781614460696557033904939214299566399317068049120520759316427769,k2 0 1712965406350014028458642559162691490872081536105583621705901424513988854531058180666829273372089008477123474675792,k2 1581198836630782180115670054611715222343459879482077189266985930320605096490207551384765483112697546286575515085348 2421210718590885213302119771124188934213422940456930696065072205803426554000630313057922146016318117751318757474439,k2 3156907399523263033217049588200473100164893856604841610515683715049819203062046326549444974964587114981878198521094 0]
theorem R7:jV Q3 Q3=q33:=by decide +kernel
def q44:List F2:=[k2 0 373248,k2 4002409555221667393417789825735904156556882819939007885332058136124031650490837864442687629129015664037894272373163 186624,k2 4002409555221667393417789825735904156556882819939007885332058136124031650490837864442687629129015664037894272482027 0,k2 4002409555221667393417789825735904156556882819939007885332058136124031650490837864442687629129015664037894272551147 4002409555221667393417789825735904156556882819939007885332058136124031650490837864442687629129015664037894272551147,k2 0 4002409555221667393417789825735904156556882819939007885332058136124031650490837864442687629129015664037894272558707,k2 36 4002409555221667393417789825735904156556882819939007885332058136124031650490837864442687629129015664037894272559751,k2 1 0]
theorem R8:jV Q4 Q4=q44:=by decide +kernel
def sq2:List F2:=[k2 4002409555221667393417789825735904156556882819939007885332058136124031650490837864442687629129015664037893894832811 377726976,k2 4002409555221667393417789825735904156556882819939007885332058136124031650490837864442687629129015664037893805253291 0,k2 4002409555221667393417789825735904156556882819939007885332058136124031650490837864442687629129015664037894149076907 4002409555221667393417789825735904156556882819939007885332058136124031650490837864442687629129015664037894149076907,k2 0 4002409555221667393417789825735904156556882819939007885332058136124031650490837864442687629129015664037894236783275,k2 2979936 4002409555221667393417789825735904156556882819939007885332058136124031650490837864442687629129015664037894269579851,k2 254304 0,k2 1012 1012,k2 0 4002409555221667393417789825735904156556882819939007885332058136124031650490837864442687629129015664037894272558947,k2 36 4002409555221667393417789825735904156556882819939007885332058136124031650490837864442687629129015664037894272559751,k2 1 0]
theorem Ss:jV S3 EL=sq2:=by decide +kernel
def bq2:List F2:=[k2 4002409555221667393417789825735904156556882819939007885332058136124031650490837864442687629129015664037894271066795 1492992,k2 4002409555221667393417789825735904156556882819939007885332058136124031650490837864442687629129015664037894271066795 0,k2 4002409555221667393417789825735904156556882819939007885332058136124031650490837864442687629129015664037894272248747 4002409555221667393417789825735904156556882819939007885332058136124031650490837864442687629129015664037894272248747,k2 0 4002409555221667393417789825735904156556882819939007885332058136124031650490837864442687629129015664037894272490667,k2 4320 4002409555221667393417789825735904156556882819939007885332058136124031650490837864442687629129015664037894272555467,k2 288 0,k2 4 4]
theorem Qg:jV B2 EL=bq2:=by decide +kernel
def SP:List F2:=[k2 2778078511580471469231003637616416328145106593812260617253801669243840898694600767363511577968836661184052813128494 1224331043641195924186786188119487828411776226126747268078256466880190751796237097079176051160179002853841459431293,k2 395299709157695545028917513652928805585864969870519297316746482580151274122551887846191370778174386571643877296600 0,k2 1235311591117798578215367230165402517455828030845372804114832758062972731632974649519348033681794958036387120857795 1235311591117798578215367230165402517455828030845372804114832758062972731632974649519348033681794958036387120857795,k2 0 3574168203634163886303129185945231283838862435912611979905582779995534436858073319275980310785993411918613403821057,k2 840011881960103033186449716512473711869963060974853506798086275482821457510422761673156662903620571464743242393803 3162397673261564360231340109223430444686919758964154378533971860641210192980415102769530966225395092573151030165984,k2 3508284918774547962131642933669743149574551607600858763686125032898842557837648004634948415656297680823339424095933 0,k2 1811790333639437914715871937575923692268547778573213446035088045159026673061696152628377116066632605120034444368626 1811790333639437914715871937575923692268547778573213446035088045159026673061696152628377116066632605120034444368626,k2 0 2915335355038004644588266663190349941195754152795079817711005309028615646653820172865661359489036100965873605938609,k2 1581198836630782180115670054611715222343459879482077189266985930320605096490207551384765483112697546286575515085348 2421210718590885213302119771124188934213422940456930696065072205803426554000630313057922146016318117751318757474439,k2 3156907399523263033217049588200473100164893856604841610515683715049819203062046326549444974964587114981878198521094 0]
theorem Nl:AH MB bq2=SP:=by decide +kernel
def lhs:List F2:=[k2 4002409555221667393417789825735904156556882819939007885332058136124031650490837864442687629129015664037308247550635 4002409555221667393417789825735904156556882819939007885332058136124031650490837864442687629129015664037308247550635,k2 0 4002409555221667393417789825735904156556882819939007885332058136124031650490837864442687629129015664036757804919467,k2 2668273036814444928945193217157269437704588546626005256888038757416021100327225242961791752752677109359106448759922 1334136518407222464472596608578634718852294273313002628444019378708010550163612621480895876376338554678787823799865,k2 3705934773353395734646101690496207552367484092536118412344498274188918194898923948558044101045384874109442172852553 0,k2 148237390934135829385844067619848302094699363701444736493779930967556727795956957942321764041815394964419206318257 148237390934135829385844067619848302094699363701444736493779930967556727795956957942321764041815394964419206318257,k2 0 98824927289423886257229378413232201396466242467629824329186620645037818530637971961547842694543596642925208285302,k2 554517647568434028443342623318691796724616138290589569847102704730489981755246398228685117341605736718554587285711 3447891907653233364974447202417212359832266681648418315484955431393541668735591466214002511787409927319339685274076,k2 395299709157695545028917513652928805585864969870519297316746482580151274122551887846191370778174386571643675226584 0,k2 1828261154854341895758743500644795725834625485651151750089952481933199642816802481288635089849056537893852929075591 1828261154854341895758743500644795725834625485651151750089952481933199642816802481288635089849056537893852929075591,k2 0 3574168203634163886303129185945231283838862435912611979905582779995534436858073319275980310785993411918613403290113,k2 3952997091576955450289175136529288055858649698705192973167464825801512741225518878461913707781743865716438787712304 49412463644711943128614689206616100698233121233814912164593310322518909265318985980773921347271798321455484847483,k2 543537100091831374414761581272777107680564333571964033810526413547708001918508845788513134819989781536010333308425 0,k2 774128597100487109014963464236985577605652232663100290578628528386129578489997447032124767773924840369469262593755 774128597100487109014963464236985577605652232663100290578628528386129578489997447032124767773924840369469262593755,k2 0 1729436227564918009501514122231563524438159243183521925760765861288161824286164509327087247154512941250941969624593,k2 3162397673261564360231340109223430444686919758964154378533971860641210192980415102769530966225395092573151030170696 840011881960103033186449716512473711869963060974853506798086275482821457510422761673156662903620571464743242389091,k2 3156907399523263033217049588200473100164893856604841610515683715049819203062046326549444974964587114981878198521094 0]
theorem Rr:jV q33 sq2=lhs:=by decide +kernel
theorem Sh:jV SP q44=lhs:=by decide +kernel
theorem LK(x:F2):Kf.K2.mul (pol x q33) (Kf.K2.mul (cm x) (pol x EL))=Kf.K2.mul (Kf.K2.add (pol x MB) (Kf.K2.mul (pol x B2) (pol x EL))) (pol x q44):=by
 have h1:pol x (jV q33 sq2)=pol x (jV SP q44):=by rw[Rr,Sh]
 rw[cS,cS,← Nl,rv,← Ss,cS,← Qg,cS]at h1
 exact h1
theorem IG(x:F2):pol x EL=Kf.K2.mul (Kf.K2.mul (pol x Q2) (pol x Q2)) (pol x Q2):=by rw[← MD,cS,← R6,cS]
theorem IF(x:F2):pol x MB=Kf.K2.mul (Kf.K2.mul (pol x Q1) (pol x Q1)) (pol x Q1):=by rw[← MC,cS,← R5,cS]
theorem Mn(x:F2):pol x q33=Kf.K2.mul (pol x Q3) (pol x Q3):=by rw[← R7,cS]
theorem Mp(x:F2):pol x q44=Kf.K2.mul (pol x Q4) (pol x Q4):=by rw[← R8,cS]
theorem RW(x:F2):pol x B2=k2 4 4:=by
 rw[show pol x B2=Kf.K2.add (Kf.K2.mul Kf.K2.zero x) (k2 4 4)from rfl,Kf.K2.aG,Kf.K2.aM]
def b2c:F2:=k2 4 4
theorem HL{x y:F2}(hy:Kf.K2.mul y y=cm x)(h2:pol x Q2≠Kf.K2.zero)(h4:pol x Q4≠Kf.K2.zero):
  Kf.K2.mul (Kf.K2.mul y (Kf.K2.mul (pol x Q3) (Kf.K2.inv (pol x Q4)))) (Kf.K2.mul y (Kf.K2.mul (pol x Q3) (Kf.K2.inv (pol x Q4))))=Kf.K2.add (Kf.K2.mul (Kf.K2.mul (Kf.K2.mul (pol x Q1) (Kf.K2.inv (pol x Q2))) (Kf.K2.mul (pol x Q1) (Kf.K2.inv (pol x Q2)))) (Kf.K2.mul (pol x Q1) (Kf.K2.inv (pol x Q2)))) b2c:=by
 have h:=LK x
 rw[IG,IF,Mn,Mp,RW]at h
 have e2:=Kf.K2.aI p_3 h2
 have e4:=Kf.K2.aI p_3 h4
 generalize pol x Q1=q1 at *
 generalize pol x Q2=q2 at *
 generalize pol x Q3=q3 at *
 generalize pol x Q4=q4 at *
 generalize Kf.K2.inv q2=i2 at *
 generalize Kf.K2.inv q4=i4 at *
 exact Kf.K2.DT (e2.trans Kf.K2.dN.symm) (e4.trans Kf.K2.dN.symm) hy h
def xk0:F2:=k2 4002409555221667393417789825735904156556882819939007885332058136124031650490837864442687629129015664037894272559781 6
def lin:List F2:=[Kf.K2.neg xk0,Kf.K2.one]
theorem P2:jV lin lin=Q2:=by decide +kernel
theorem P4:jV Q2 lin=Q4:=by decide +kernel
theorem Mm(x:F2):pol x lin=Kf.K2.sub x xk0:=by
 rw[show pol x lin=Kf.K2.add (Kf.K2.mul (Kf.K2.add (Kf.K2.mul Kf.K2.zero x) Kf.K2.one) x) (Kf.K2.neg xk0)from rfl,Kf.K2.aG,Kf.K2.aM,Kf.K2.aR,Kf.K2.sub_eq]
theorem yf:cm xk0=k2 4 4:=by decide +kernel
theorem RX(x:F2):pol x Q2=Kf.K2.mul (pol x lin) (pol x lin):=by rw[← cS,P2]
theorem RY(x:F2):pol x Q4=Kf.K2.mul (pol x Q2) (pol x lin):=by rw[← cS,P4]
theorem xC{x:F2}(h:pol x lin=Kf.K2.zero):x=xk0:=Kf.K2.aE (by rw[← Mm];exact h)
theorem vd{x:F2}(h:pol x lin≠Kf.K2.zero):pol x Q2≠Kf.K2.zero:=by rw[RX];exact Kf.K2.bQ p_3 h h
theorem Ap{x:F2}(h:pol x lin≠Kf.K2.zero):pol x Q4≠Kf.K2.zero:=by rw[RY];exact Kf.K2.bQ p_3 (vd h) h
theorem WW:Nat.beq (Pr.pm p 381 32 ((p-1)/3)) 1=false:=by decide +kernel
theorem Ml:(p-1)/3<2^381:=by decide +kernel
theorem wm:(1:Fq).val=1:=by decide +kernel
theorem Co:(Kf.K2.bW (Kf.K2.neg b2c))^((p-1)/3)≠1:=by
 intro h
 have e:Kf.K2.bW (Kf.K2.neg b2c)=kp 32:=by decide +kernel
 have h0:=WW
 have h1:=Pr.tH p 381 32 _ Ml
 rw[e]at h
 generalize (p-1)/3=k at h h0 h1
 rw[mM,h,wm]at h1
 rw[h1]at h0
 exact absurd h0 (by decide)
theorem CH(x:F2):cm x≠Kf.K2.zero:=by
 intro hs
 by_cases hl:pol x lin=Kf.K2.zero
 ·rw[xC hl,yf]at hs
  exact absurd hs (by decide +kernel)
 ·have e:=HL (x:=x) (y:=Kf.K2.zero) (by rw[hs,Kf.K2.aG]) (vd hl) (Ap hl)
  rw[Kf.K2.aG,Kf.K2.aG]at e
  exact Kf.K2.pK p_3 (by decide +kernel) (by decide +kernel) Co (Kf.K2.aP e.symm)
theorem no2:Kf.K2.No2 b2c:=fun _ h=>Kf.K2.pK p_3 (by decide +kernel) (by decide +kernel) Co (Kf.K2.aP h)
def W6:Nat:=225038059437516012967016182254553905964953855560047398581028672012823445407566078119195226162312789451238293834482
theorem Rq:Kf.isq (kp 32)=false:=by
 have h:Kf.isq (-kp 32)=true:=(Kf.ca p_3).2 ⟨kp W6,by decide +kernel⟩
 have h2:=Kf.fP p_3 (a:=kp 32) (by decide +kernel)
 rw[h]at h2
 cases h3:Kf.isq (kp 32)
 ·rfl
 ·rw[h3]at h2;exact absurd h2 (by decide)
theorem F3(m:F2):Kf.K2.mul m m≠b2c:=by
 intro h
 have h1:Kf.K2.gv b2c=true:=(Kf.K2.eY p_3).2 ⟨m,h⟩
 rw[Kf.K2.fC p_3,show Kf.K2.bW b2c=kp 32 by decide +kernel,Rq]at h1
 exact absurd h1 (by decide)
theorem ka{x y:F2}(h:Kf.K2.mul y y=cm x):pol x lin≠Kf.K2.zero:=by
 intro e
 rw[xC e,yf]at h
 exact F3 y h
theorem Wf{x y:F2}(h:Kf.K2.mul y y=cm x):y≠Kf.K2.zero:=by
 rintro rfl
 rw[Kf.K2.aj]at h
 exact CH x h.symm
def phx(x:F2):F2:=Kf.K2.mul (pol x Q1) (Kf.K2.inv (pol x Q2))
def phy(x y:F2):F2:=Kf.K2.mul y (Kf.K2.mul (pol x Q3) (Kf.K2.inv (pol x Q4)))
theorem UU{x y:F2}(h:Kf.K2.mul y y=cm x):Kf.K2.mul (phy x y) (phy x y)=Kf.K2.add (Kf.K2.mul (Kf.K2.mul (phx x) (phx x)) (phx x)) b2c:=
 HL h (vd (ka h)) (Ap (ka h))
end
section
attribute [local irreducible] Code.wp wpList Af bodyPost L.Go ab
open Num
attribute [local simp] ae
abbrev G4(a b e f:Nat)(i:Bool):Value:=GL ((D 6 a++D 6 b)++(D 6 e++D 6 f)) i
theorem b4E:(D 6 4++D 6 4:List Nat)=E2 b2c:=by decide +kernel
theorem Un:[4]++List.replicate (6-[4].length) 0=D 6 4:=by decide +kernel
theorem Ls:Spec Tryz.prog 114 [] ai [] (IsV (LV .u64 (E2 b2c))):=by
 refine ad Tryz.func114 rfl rfl rfl fun w _=>?_
 repeat (first|(refine bI ?_;intro _)|(refine bn (kk:=.u64) (vs:=[4]) (by rfl) (by rfl) (by rfl) (by rfl) (by rfl) (by rfl) (by rfl) (by rfl) ?_;rw[Un])|refine eP ?_|refine fJ ?_|refine Z03 ?_|refine Z04 ?_|refine Z05 ?_|refine Z06 ?_|refine Z07 ?_|refine Z08 ?_|refine Z09 ?_|refine Z10 ?_|refine Z11 ?_|refine Z12 ?_|refine Z13 ?_|refine Z14 ?_|refine Z29 ?_|refine Z30 ?_|refine Z31 ?_|refine Z32 ?_|refine Z82 fun _=>?_)
 refine Zec fun _ hw=>aa hw SubW.nil ⟨?_,rfl⟩
 rw[← b4E]
theorem pd{a b:Prop}(k:b)(h:Rm b→a:=by intro k;(first|refine Z01 ?_|refine Z02 ?_|refine Z03 ?_|refine Z04 ?_|refine Z05 ?_|refine Z06 ?_|refine Z07 ?_|refine Z08 ?_|refine Z09 ?_|refine Z10 ?_|refine Z11 ?_|refine Z12 ?_|refine Z13 ?_|refine Z14 ?_|refine Z24 ?_|refine Z26 ?_|refine Z27 ?_|refine Z49 ?_|refine Z50 ?_|refine Z51 ?_|refine Z52 ?_|refine Z67 ?_|refine Z77 ?_|refine Z78 ?_|refine Z79 ?_);exact k.h):a:=h ⟨k⟩
theorem C9{a b:Prop}(k:b)(h:Rm b→a:=by intro k;refine Zqp (by intro _ _ _;refine v4 (by rfl) fd (by rfl) (by first|with_reducible assumption|simp) (by rfl) ?_;exact Zq) ?_;exact k.h):a:=h ⟨k⟩
theorem Pv{a b:Prop}(k:b)(h:Rm b→a:=by intro k;(first|refine bK ?_|refine fI ?_|refine Z01 ?_|refine Z02 ?_|refine Z49 ?_|refine Z50 ?_|refine Z77 ?_|refine Z78 ?_|refine Z79 ?_);exact k.h):a:=h ⟨k⟩
theorem xe{a b e f:Nat}(ha:a<W^6)(hb:b<W^6)(he:e<W^6)(hf:f<W^6)(i:Bool):Spec Tryz.prog 60 [G4 a b e f i] ai [] (IsV (.bool (i||decide (Kf.K2.mul (k2 e f) (k2 e f)=Kf.K2.add (Kf.K2.mul (Kf.K2.mul (k2 a b) (k2 a b)) (k2 a b)) b2c)))):=by
 refine ad Tryz.func60 rfl rfl rfl fun w _=>?_
 have hl0:=fun x=>ae 6 x
 have hle:=fun x:F2=>ak x
 cases i with
 | true=>
  repeat (first|refine pd ?_|refine Z81 fun _=>?_)
  refine au (by rfl) ?_
  repeat (first|(refine Zqf (by intro _ _ _;(first|refine Pv ?_);exact Zq) ?_)|refine C9 ?_|refine nM ?_|refine sv ?_|refine Zqn ?_)
  refine Zq0 ?_ (by kernel_rfl)
  repeat (first|refine pd ?_|refine Z81 fun _=>?_)
  refine Ze1 fun _ hw=>aa hw SubW.nil ⟨?_,rfl⟩
  rfl
 | false=>
  rw[Bool.false_or]
  have hm1:=gL he hf he hf
  have hm2:=gL ha hb ha hb
  have hm3:=OD ha hb (Kf.K2.mul (k2 a b) (k2 a b))
  generalize k2 a b=x at hm2 hm3 ⊢
  generalize k2 e f=y at hm1 ⊢
  have had:=cV (Kf.K2.mul (Kf.K2.mul x x) x) b2c
  generalize Kf.K2.add (Kf.K2.mul (Kf.K2.mul x x) x) b2c=r at had ⊢
  generalize Kf.K2.mul (Kf.K2.mul x x) x=r1 at hm3 had
  generalize Kf.K2.mul x x=r2 at hm2 hm3
  generalize Kf.K2.mul y y=q at hm1 ⊢
  repeat (first|refine pd ?_|refine Z81 fun _=>?_)
  refine au (by rfl) ?_
  repeat (first|(refine Zqf (by intro _ _ _;(first|refine dJ (jX q r) ?_|refine Pv ?_);exact Zq) ?_)|refine C9 ?_|(refine Zqp (by intro _ _ _;(refine cO (by rfl) fd (by rfl) (by rfl) (by first | (refine ab.l ?_;(simp;done)) | (refine ab.r ?_ ?_ <;> (simp;done)) | (refine ab.all ?_;(simp;done))) (by rfl) ?_);exact Zq) ?_)|refine nM ?_|(refine Zqp (by intro _ _ _;refine ah (by rfl) (by rfl) (by rfl) (Ls) (fun _ _=>trivial) (by rfl) ?_;exact Zq) ?_)|refine bT hm1 ?_|refine bT hm2 ?_|refine bT hm3 ?_|refine bT had ?_|refine sv ?_|refine Zqn ?_)
  refine Zq0 ?_ (by kernel_rfl)
  repeat (first|refine pd ?_|refine Z81 fun _=>?_)
  refine Ze1 fun _ hw=>aa hw SubW.nil ⟨?_,rfl⟩
  rfl
def gx(P:Kf.K2.Pt p):F2:=match P with
 | none=>Kf.K2.zero
 | some q=>q.1
def gy(P:Kf.K2.Pt p):F2:=match P with
 | none=>Kf.K2.zero
 | some q=>q.2
def gi(P:Kf.K2.Pt p):Bool:=P.isNone
abbrev GV(P:Kf.K2.Pt p):Value:=GE (gx P) (gy P) (gi P)
def ptv(x y:F2)(i:Bool):Kf.K2.Pt p:=if i=true then none else some (x,y)
theorem U0(x y:F2):ptv x y true=none:=rfl
theorem UZ(x y:F2):ptv x y false=some (x,y):=rfl
theorem kD:GV none=GE Kf.K2.zero Kf.K2.zero true:=rfl
theorem ji(x y:F2):GV (some (x,y))=GE x y false:=rfl
theorem oo(P:Kf.K2.Pt p):ptv (gx P) (gy P) (gi P)=P:=by
 cases P with
 | none=>rfl
 | some q=>rfl
theorem fm{a b:Prop}(k:b)(h:Rm b→a:=by intro k;refine v4 (by rfl) fd (by rfl) (by first|with_reducible assumption|simp) (by rfl) ?_;exact k.h):a:=h ⟨k⟩
theorem lA{a b:Prop}(k:b)(h:Rm b→a:=by intro k;refine R.Zpp (by rfl) (by intro _ _ _;(refine cO (by rfl) fd (by rfl) (by rfl) (by first | (refine ab.l ?_;(simp;done)) | (refine ab.r ?_ ?_ <;> (simp;done)) | (refine ab.all ?_;(simp;done))) (by rfl) ?_);exact Zq) ?_;exact k.h):a:=h ⟨k⟩
theorem kK{a b e f:Nat}(ha:a<W^6)(hb:b<W^6)(he:e<W^6)(hf:f<W^6)(i:Bool):Spec Tryz.prog 62 [G4 a b e f i] ai [] (IsV (GV (ptv (k2 a b) (k2 e f) i))):=by
 refine ad Tryz.func62 rfl rfl rfl fun w _=>?_
 have hl0:=fun x=>ae 6 x
 have hle:=fun x:F2=>ak x
 cases i with
 | true=>
  rw[U0,kD]
  repeat (first|refine fm ?_|refine dt ?_|(refine co ?_;intro _)|refine bK ?_|refine eQ ?_|refine eP ?_|refine pc ?_|refine Z03 ?_|refine Z04 ?_|refine Z05 ?_|refine Z06 ?_|refine Z07 ?_|refine Z08 ?_|refine Z09 ?_|refine Z10 ?_|refine Z11 ?_|refine Z12 ?_|refine Z13 ?_|refine Z14 ?_|refine Z24 ?_|refine Z26 ?_|refine Z27 ?_|refine Z29 ?_|refine Z30 ?_|refine Z31 ?_|refine Z32 ?_|refine Z67 ?_|refine Z81 fun _=>?_|refine Z82 fun _=>?_)
  refine aQ (m:=24) (by rfl) (by rfl) fd (by rfl) (by rfl) (by first|with_reducible assumption|simp) fun _ hw=>aa hw SubW.nil ⟨?_,rfl⟩
  rfl
 | false=>
  rw[UZ,ji]
  have h1:=kU ha hb
  have h2:=kU he hf
  repeat (first|refine fm ?_|(refine co ?_;intro _)|refine bK ?_|refine eQ ?_|refine eP ?_|refine Z03 ?_|refine Z04 ?_|refine Z05 ?_|refine Z06 ?_|refine Z07 ?_|refine Z08 ?_|refine Z09 ?_|refine Z10 ?_|refine Z11 ?_|refine Z12 ?_|refine Z13 ?_|refine Z14 ?_|refine Z24 ?_|refine Z26 ?_|refine Z27 ?_|refine Z29 ?_|refine Z30 ?_|refine Z31 ?_|refine Z32 ?_|refine Z67 ?_|refine Z81 fun _=>?_|refine Z82 fun _=>?_)
  refine R.af [0,1,2,3,4,5,6,7] (by rfl) ?_
  repeat (first|(refine R.Zpf (by rfl) (by intro _ _ _;(first|refine bK ?_|refine eP ?_|refine yZ ?_);exact Zq) ?_)|refine aL ?_|refine lA ?_|refine cz ?_|refine ag h1 ?_|refine ag h2 ?_|refine gb ?_|(refine aV ?_;intro _))
  refine R.Zp0 ?_
  repeat (first|refine bV ?_|refine Z81 fun _=>?_|refine Z82 fun _=>?_)
  refine aQ (m:=24) (by rfl) (by rfl) fd (by rfl) (by rfl) (by first|with_reducible assumption|simp) fun _ hw=>aa hw SubW.nil ⟨?_,rfl⟩
  rfl
theorem bo{a b:Prop}(k:b)(h:Rm b→a:=by intro k;(first|refine Z01 ?_|refine Z02 ?_|refine Z03 ?_|refine Z04 ?_|refine Z05 ?_|refine Z06 ?_|refine Z07 ?_|refine Z08 ?_|refine Z09 ?_|refine Z10 ?_|refine Z11 ?_|refine Z12 ?_|refine Z13 ?_|refine Z14 ?_|refine Z24 ?_|refine Z26 ?_|refine Z27 ?_|refine Z29 ?_|refine Z30 ?_|refine Z31 ?_|refine Z32 ?_|refine Z49 ?_|refine Z50 ?_|refine Z51 ?_|refine Z52 ?_|refine Z67 ?_|refine Z77 ?_|refine Z78 ?_|refine Z79 ?_);exact k.h):a:=h ⟨k⟩
theorem Vz{a b:Prop}(k:b)(h:Rm b→a:=by intro k;(first|refine Z01 ?_|refine Z02 ?_|refine Z49 ?_|refine Z50 ?_|refine Z77 ?_|refine Z78 ?_|refine Z79 ?_);exact k.h):a:=h ⟨k⟩
theorem za{a b:Prop}(k:b)(h:Rm b→a:=by intro k;refine R.Zpp (by rfl) (by intro _ _ _;refine dI (m:=24) (by rfl) fd (by rfl) (by rfl) (by first|with_reducible assumption|simp) (by rfl) ?_;exact Zq) ?_;exact k.h):a:=h ⟨k⟩
theorem du{a b:Prop}(k:b)(h:Rm b→a:=by intro k;refine dI (m:=24) (by rfl) fd (by rfl) (by rfl) (by first|with_reducible assumption|simp) (by rfl) ?_;exact k.h):a:=h ⟨k⟩
theorem kC{a b:Prop}(k:b)(h:Rm b→a:=by intro k;refine Jv (by rfl) (by rfl) (by rfl) (by kernel_rfl) (by rfl) (by rfl) (by rfl) (by rfl) (by rfl) (by rfl) (by rfl) (by rfl) (by rfl) (by rfl) (by kernel_rfl) (by simp;done) (by simp;done) (by simp;done) (by simp;done) (by rfl) ?_;exact k.h):a:=h ⟨k⟩
theorem pf{a b:Prop}(k:b)(h:Rm b→a:=by intro k;refine cO (by rfl) fd (by rfl) (by rfl) (by first | (refine ab.l ?_;(simp;done)) | (refine ab.r ?_ ?_ <;> (simp;done)) | (refine ab.all ?_;(simp;done))) (by rfl) ?_;exact k.h):a:=h ⟨k⟩
theorem OQ{a b:Prop}(k:b)(h:Rm b→a:=by intro k;refine CS (hr:=fM _) (by rfl) (by rfl) (by rfl) (by kernel_rfl) (by rfl) (by rfl) (by rfl) (by rfl) (by rfl) (by rfl) (by rfl) (by rfl) (by rfl) (by rfl) (by kernel_rfl) (by simp;done) (by simp;done) (by simp;done) (by simp;done) (by rfl) ?_;exact k.h):a:=h ⟨k⟩
theorem Da{S1 a b:Prop}(s1:S1)(k:b)(h:S1→Rm b→a:=by intro s1 k;refine CS (hr:=s1) (by rfl) (by rfl) (by rfl) (by kernel_rfl) (by rfl) (by rfl) (by rfl) (by rfl) (by rfl) (by rfl) (by rfl) (by rfl) (by rfl) (by rfl) (by kernel_rfl) (by simp;done) (by simp;done) (by simp;done) (by simp;done) (by rfl) ?_;exact k.h):a:=h s1 ⟨k⟩
theorem Pw{a b:Prop}(k:b)(h:Rm b→a:=by intro k;refine R.Zpf (by rfl) (by intro _ _ _;(first|refine Vz ?_);exact Zq) ?_;exact k.h):a:=h ⟨k⟩
theorem Ku{a b:Prop}(k:b)(h:Rm b→a:=by intro k;(first|refine bK ?_|refine eQ ?_|refine eP ?_|refine fI ?_|refine kC ?_|refine Z01 ?_|refine Z02 ?_|refine Z03 ?_|refine Z04 ?_|refine Z05 ?_|refine Z06 ?_|refine Z07 ?_|refine Z08 ?_|refine Z09 ?_|refine Z10 ?_|refine Z11 ?_|refine Z12 ?_|refine Z13 ?_|refine Z14 ?_|refine Z24 ?_|refine Z26 ?_|refine Z27 ?_|refine Z29 ?_|refine Z30 ?_|refine Z31 ?_|refine Z32 ?_|refine Z49 ?_|refine Z50 ?_|refine Z51 ?_|refine Z52 ?_|refine Z67 ?_|refine Z77 ?_|refine Z78 ?_|refine Z79 ?_);exact k.h):a:=h ⟨k⟩
theorem Kv{a b:Prop}(k:b)(h:Rm b→a:=by intro k;(first|refine fm ?_|refine du ?_|refine pf ?_|refine dt ?_|refine OQ ?_);exact k.h):a:=h ⟨k⟩
theorem VN{a b:Prop}(k:b)(h:Rm b→a:=by intro k;(first|refine bK ?_|refine eP ?_|refine fI ?_|refine kC ?_|refine Z01 ?_|refine Z02 ?_|refine Z49 ?_|refine Z50 ?_|refine Z77 ?_|refine Z78 ?_|refine Z79 ?_);exact k.h):a:=h ⟨k⟩
theorem VO{a b:Prop}(k:b)(h:Rm b→a:=by intro k;(first|refine bK ?_|refine eP ?_|refine fI ?_|refine kC ?_|refine yZ ?_|refine Z01 ?_|refine Z02 ?_|refine Z49 ?_|refine Z50 ?_|refine Z77 ?_|refine Z78 ?_|refine Z79 ?_);exact k.h):a:=h ⟨k⟩
theorem Px{a b:Prop}(k:b)(h:Rm b→a:=by intro k;(first|refine bK ?_|refine eQ ?_|refine eP ?_|refine fI ?_|refine kC ?_|refine pc ?_|refine Z01 ?_|refine Z02 ?_|refine Z03 ?_|refine Z04 ?_|refine Z05 ?_|refine Z06 ?_|refine Z07 ?_|refine Z08 ?_|refine Z09 ?_|refine Z10 ?_|refine Z11 ?_|refine Z12 ?_|refine Z13 ?_|refine Z14 ?_|refine Z24 ?_|refine Z26 ?_|refine Z27 ?_|refine Z29 ?_|refine Z30 ?_|refine Z31 ?_|refine Z32 ?_|refine Z49 ?_|refine Z50 ?_|refine Z51 ?_|refine Z52 ?_|refine Z67 ?_|refine Z77 ?_|refine Z78 ?_|refine Z79 ?_);exact k.h):a:=h ⟨k⟩
theorem pj{a b:Prop}(k:b)(h:Rm b→a:=by intro k;(first|refine Pw ?_|refine aL ?_|refine za ?_);exact k.h):a:=h ⟨k⟩
theorem KJ{a b:Prop}(k:b)(h:Rm b→a:=by intro k;refine R.Zpf (by rfl) (by intro _ _ _;(first|refine VN ?_);exact Zq) ?_;exact k.h):a:=h ⟨k⟩
theorem PV{a b:Prop}(k:b)(h:Rm b→a:=by intro k;(first|(refine R.Zpf (by rfl) (by intro _ _ _;(first|refine VO ?_);exact Zq) ?_)|refine aL ?_|refine lA ?_|refine cz ?_);exact k.h):a:=h ⟨k⟩
theorem DE{a b:Prop}(k:b)(h:Rm b→a:=by intro k;(first|refine KJ ?_|refine aL ?_|refine lA ?_|refine cz ?_);exact k.h):a:=h ⟨k⟩
set_option maxHeartbeats 8000000 in
theorem D9{a b e f a' b' e' f':Nat}(ha:a<W^6)(hb:b<W^6)(he:e<W^6)(hf:f<W^6)(i:Bool)(ha':a'<W^6)(hb':b'<W^6)(he':e'<W^6)(hf':f'<W^6)(j:Bool):
  Spec Tryz.prog 26 [G4 a b e f i,G4 a' b' e' f' j] ai [] (IsV (GV (Kf.K2.pa (ptv (k2 a b) (k2 e f) i) (ptv (k2 a' b') (k2 e' f') j)))):=by
 refine ad Tryz.func26 rfl rfl rfl fun w _=>?_
 have hl0:=fun x=>ae 6 x
 have hle:=fun x:F2=>ak x
 have h1:=kK ha hb he hf i
 have h2:=kK ha' hb' he' hf' j
 generalize ptv (k2 a b) (k2 e f) i=P at h1 ⊢
 generalize ptv (k2 a' b') (k2 e' f') j=Q at h2 ⊢
 obtain⟨x1,y1,i1,ex1,ey1,ei1⟩:∃x y i,x=gx P∧y=gy P∧i=gi P:=⟨_,_,_,rfl,rfl,rfl⟩
 obtain⟨x2,y2,i2,ex2,ey2,ei2⟩:∃x y i,x=gx Q∧y=gy Q∧i=gi Q:=⟨_,_,_,rfl,rfl,rfl⟩
 have g1:GV P=GE x1 y1 i1:=by rw[ex1,ey1,ei1]
 have g2:GV Q=GE x2 y2 i2:=by rw[ex2,ey2,ei2]
 rw[g1]at h1
 rw[g2]at h2
 repeat (first|(refine co ?_;intro _)|refine bo ?_|refine Z81 fun _=>?_|refine Z82 fun _=>?_)
 refine R.af [0,1,2,3,4,5] (by rfl) ?_
 repeat (first|refine pj ?_|refine ag h1 ?_|refine ag h2 ?_|refine gb ?_|(refine aV ?_;intro _))
 refine R.Zp0 ?_
 clear h1 h2 g1
 cases P with
 | none=>
  cases (show i1=true from ei1)
  rw[show Kf.K2.pa none Q=Q from rfl,g2]
  repeat (first|refine fm ?_|refine du ?_|refine dt ?_|(refine bI ?_;intro _)|refine Ku ?_|refine Z81 fun _=>?_|refine Z82 fun _=>?_)
  refine aQ (m:=24) (by rfl) (by rfl) fd (by rfl) (by rfl) (by first|with_reducible assumption|simp) fun _ hw=>aa hw SubW.nil ⟨?_,rfl⟩
  rfl
 | some q1=>
  obtain⟨a1,b1⟩:=q1
  cases (show x1=a1 from ex1)
  cases (show y1=b1 from ey1)
  cases (show i1=false from ei1)
  clear ex1 ey1 ei1 g2
  cases Q with
  | none=>
   cases (show i2=true from ei2)
   rw[Kf.K2.bB,ji]
   repeat (first|refine fm ?_|refine du ?_|refine dt ?_|(refine bI ?_;intro _)|refine Ku ?_|refine Z81 fun _=>?_|refine Z82 fun _=>?_)
   refine aQ (m:=24) (by rfl) (by rfl) fd (by rfl) (by rfl) (by first|with_reducible assumption|simp) fun _ hw=>aa hw SubW.nil ⟨?_,rfl⟩
   rfl
  | some q2=>
   obtain⟨a2,b2⟩:=q2
   cases (show x2=a2 from ex2)
   cases (show y2=b2 from ey2)
   cases (show i2=false from ei2)
   clear ex2 ey2 ei2
   by_cases hx:x1=x2
   ·by_cases hy:y1=y2∧y1≠Kf.K2.zero
    ·have hpa:Kf.K2.pa (some (x1,y1)) (some (x2,y2))=some (Kf.K2.cx (Kf.K2.f6 x1 y1) x1 x2,Kf.K2.cy (Kf.K2.f6 x1 y1) x1 y1 x2):=by
      show(if x1=x2 then if y1=y2∧y1≠Kf.K2.zero then _ else _ else _)=_
      rw[if_pos hx,if_pos hy]
     rw[hpa,ji]
     obtain⟨hy1,hy2⟩:=hy
     subst hx
     subst hy1
     have m1:=aF x1 x1
     have m2:=cV (Kf.K2.mul x1 x1) (Kf.K2.mul x1 x1)
     have m3:=cV (Kf.K2.add (Kf.K2.mul x1 x1) (Kf.K2.mul x1 x1)) (Kf.K2.mul x1 x1)
     have m4:=cV y1 y1
     rw[Kf.K2.f6,Kf.K2.q3]
     clear hpa
     generalize Kf.K2.add (Kf.K2.add (Kf.K2.mul x1 x1) (Kf.K2.mul x1 x1)) (Kf.K2.mul x1 x1)=u at m3 ⊢
     generalize Kf.K2.add (Kf.K2.mul x1 x1) (Kf.K2.mul x1 x1)=u1 at m2 m3
     generalize Kf.K2.mul x1 x1=u2 at m1 m2 m3
     generalize Kf.K2.add y1 y1=v at m4 ⊢
     repeat (first|refine Kv ?_|refine dJ (cN hy2) ?_|refine nO ?_|(refine bI ?_;intro _)|refine bK ?_|refine eQ ?_|refine eP ?_|refine fI ?_|refine kC ?_|refine y_4 m1 ?_|refine bo ?_|refine Z81 fun _=>?_|refine Z82 fun _=>?_)
     refine R.af [0,1,2,3,4,5,6,7,8,9,10,11] (by rfl) ?_
     repeat (first|refine DE ?_|refine ag m2 ?_|refine ag m3 ?_|refine ag m4 ?_|refine aA ?_|(refine aV ?_;intro _))
     refine R.Zp0 ?_
     repeat (first|refine bo ?_|refine Z81 fun _=>?_|refine Z82 fun _=>?_)
     obtain⟨l,hl⟩:∃l:F2,l=Kf.K2.mul u (Kf.K2.inv v):=⟨_,rfl⟩
     have k1:=kw v
     have k2:=aF u (Kf.K2.inv v)
     rw[← hl]at k2 ⊢
     generalize Kf.K2.inv v=vi at k1 k2
     clear hl
     have k3:=aF l l
     have k4:=bG (Kf.K2.mul l l) x1
     have k5:=bG (Kf.K2.sub (Kf.K2.mul l l) x1) x1
     have k6:=bG x1 (Kf.K2.cx l x1 x1)
     have k7:=aF l (Kf.K2.sub x1 (Kf.K2.cx l x1 x1))
     have k8:=bG (Kf.K2.mul l (Kf.K2.sub x1 (Kf.K2.cx l x1 x1))) y1
     rw[show Kf.K2.sub (Kf.K2.sub (Kf.K2.mul l l) x1) x1=Kf.K2.cx l x1 x1 from rfl]at k5
     rw[show Kf.K2.sub (Kf.K2.mul l (Kf.K2.sub x1 (Kf.K2.cx l x1 x1))) y1=Kf.K2.cy l x1 y1 x1 from rfl]at k8
     generalize Kf.K2.cy l x1 y1 x1=yy at k8 ⊢
     generalize Kf.K2.mul l (Kf.K2.sub x1 (Kf.K2.cx l x1 x1))=g1 at k7 k8
     generalize Kf.K2.sub x1 (Kf.K2.cx l x1 x1)=g2 at k6 k7
     generalize Kf.K2.cx l x1 x1=xx at k5 k6 ⊢
     generalize Kf.K2.sub (Kf.K2.mul l l) x1=g3 at k4 k5
     generalize Kf.K2.mul l l=g4 at k3 k4
     refine R.af [0,1,2,3,4,5] (by rfl) ?_
     repeat (first|refine KJ ?_|refine aL ?_|refine cz ?_|refine ag k1 ?_|refine ag k2 ?_|refine aA ?_|(refine fK ?_;intro _)|(refine aV ?_;intro _))
     refine R.Zp0 ?_
     repeat (first|refine bo ?_|refine Z81 fun _=>?_|refine Z82 fun _=>?_)
     refine R.af [0,1,2,3,4,5,6,7,8,9,10] (by rfl) ?_
     repeat (first|refine DE ?_|refine ag k3 ?_|refine ag k4 ?_|refine ag k5 ?_|refine aA ?_|(refine fK ?_;intro _)|(refine aV ?_;intro _))
     refine R.Zp0 ?_
     repeat (first|refine bo ?_|refine Z81 fun _=>?_|refine Z82 fun _=>?_)
     refine R.af [0,1,2,3,4,5,6,7,8,9,10,11] (by rfl) ?_
     repeat (first|refine PV ?_|refine ag k6 ?_|refine ag k7 ?_|refine ag k8 ?_|refine gb ?_|(refine aV ?_;intro _))
     refine R.Zp0 ?_
     repeat (first|refine bo ?_|refine Z81 fun _=>?_|refine Z82 fun _=>?_)
     refine aQ (m:=24) (by rfl) (by rfl) fd (by rfl) (by rfl) (by first|with_reducible assumption|simp) fun _ hw=>aa hw SubW.nil ⟨?_,rfl⟩
     rfl
    ·have hpa:Kf.K2.pa (some (x1,y1)) (some (x2,y2))=none:=by
      show(if x1=x2 then if y1=y2∧y1≠Kf.K2.zero then _ else _ else _)=_
      rw[if_pos hx,if_neg hy]
     rw[hpa,kD]
     subst hx
     by_cases hy1:y1=y2
     ·subst hy1
      have hy2:y1=Kf.K2.zero:=Classical.not_not.1 fun h=>hy ⟨rfl,h⟩
      have hz2:(decide (D 6 y1.re.val=D 6 (Kf.K2.zero:F2).re.val)&&decide (D 6 y1.im.val=D 6 (Kf.K2.zero:F2).im.val))=true:=by rw[hy2];exact fM _
      repeat (first|refine Kv ?_|refine dJ hz2 ?_|refine nO ?_|(refine bI ?_;intro _)|refine Px ?_|refine Z81 fun _=>?_|refine Z82 fun _=>?_)
      refine aQ (m:=24) (by rfl) (by rfl) fd (by rfl) (by rfl) (by first|with_reducible assumption|simp) fun _ hw=>aa hw SubW.nil ⟨?_,rfl⟩
      rfl
     ·repeat (first|refine Kv ?_|refine Da (cN hy1) ?_|(refine bI ?_;intro _)|refine Px ?_|refine Z81 fun _=>?_|refine Z82 fun _=>?_)
      refine aQ (m:=24) (by rfl) (by rfl) fd (by rfl) (by rfl) (by first|with_reducible assumption|simp) fun _ hw=>aa hw SubW.nil ⟨?_,rfl⟩
      rfl
   ·have hpa:Kf.K2.pa (some (x1,y1)) (some (x2,y2))=some (Kf.K2.cx (Kf.K2.ec x1 y1 x2 y2) x1 x2,Kf.K2.cy (Kf.K2.ec x1 y1 x2 y2) x1 y1 x2):=by
     show(if x1=x2 then _ else _)=_
     rw[if_neg hx]
    rw[hpa,ji]
    have m1:=bG y2 y1
    have m2:=bG x2 x1
    rw[Kf.K2.ec]
    generalize Kf.K2.sub y2 y1=u at m1 ⊢
    generalize Kf.K2.sub x2 x1=v at m2 ⊢
    repeat (first|refine fm ?_|refine du ?_|refine pf ?_|refine dt ?_|refine Da (cN hx) ?_|(refine bI ?_;intro _)|refine Ku ?_|refine Z81 fun _=>?_|refine Z82 fun _=>?_)
    refine R.af [0,1,2,3,4,5,6,7,8,9,10,11] (by rfl) ?_
    repeat (first|refine DE ?_|refine ag m1 ?_|refine ag m2 ?_|refine aA ?_|(refine aV ?_;intro _))
    refine R.Zp0 ?_
    repeat (first|refine bo ?_|refine Z81 fun _=>?_|refine Z82 fun _=>?_)
    obtain⟨l,hl⟩:∃l:F2,l=Kf.K2.mul u (Kf.K2.inv v):=⟨_,rfl⟩
    have k1:=kw v
    have k2:=aF u (Kf.K2.inv v)
    rw[← hl]at k2 ⊢
    generalize Kf.K2.inv v=vi at k1 k2
    clear hl
    have k3:=aF l l
    have k4:=bG (Kf.K2.mul l l) x1
    have k5:=bG (Kf.K2.sub (Kf.K2.mul l l) x1) x2
    have k6:=bG x1 (Kf.K2.cx l x1 x2)
    have k7:=aF l (Kf.K2.sub x1 (Kf.K2.cx l x1 x2))
    have k8:=bG (Kf.K2.mul l (Kf.K2.sub x1 (Kf.K2.cx l x1 x2))) y1
    rw[show Kf.K2.sub (Kf.K2.sub (Kf.K2.mul l l) x1) x2=Kf.K2.cx l x1 x2 from rfl]at k5
    rw[show Kf.K2.sub (Kf.K2.mul l (Kf.K2.sub x1 (Kf.K2.cx l x1 x2))) y1=Kf.K2.cy l x1 y1 x2 from rfl]at k8
    generalize Kf.K2.cy l x1 y1 x2=yy at k8 ⊢
    generalize Kf.K2.mul l (Kf.K2.sub x1 (Kf.K2.cx l x1 x2))=g1 at k7 k8
    generalize Kf.K2.sub x1 (Kf.K2.cx l x1 x2)=g2 at k6 k7
    generalize Kf.K2.cx l x1 x2=xx at k5 k6 ⊢
    generalize Kf.K2.sub (Kf.K2.mul l l) x1=g3 at k4 k5
    generalize Kf.K2.mul l l=g4 at k3 k4
    refine R.af [0,1,2,3,4,5] (by rfl) ?_
    repeat (first|refine KJ ?_|refine aL ?_|refine cz ?_|refine ag k1 ?_|refine ag k2 ?_|refine aA ?_|(refine fK ?_;intro _)|(refine aV ?_;intro _))
    refine R.Zp0 ?_
    repeat (first|refine bo ?_|refine Z81 fun _=>?_|refine Z82 fun _=>?_)
    refine R.af [0,1,2,3,4,5,6,7,8,9,10] (by rfl) ?_
    repeat (first|refine DE ?_|refine ag k3 ?_|refine ag k4 ?_|refine ag k5 ?_|refine aA ?_|(refine fK ?_;intro _)|(refine aV ?_;intro _))
    refine R.Zp0 ?_
    repeat (first|refine bo ?_|refine Z81 fun _=>?_|refine Z82 fun _=>?_)
    refine R.af [0,1,2,3,4,5,6,7,8,9,10,11] (by rfl) ?_
    repeat (first|refine PV ?_|refine ag k6 ?_|refine ag k7 ?_|refine ag k8 ?_|refine gb ?_|(refine aV ?_;intro _))
    refine R.Zp0 ?_
    repeat (first|refine bo ?_|refine Z81 fun _=>?_|refine Z82 fun _=>?_)
    refine aQ (m:=24) (by rfl) (by rfl) fd (by rfl) (by rfl) (by first|with_reducible assumption|simp) fun _ hw=>aa hw SubW.nil ⟨?_,rfl⟩
    rfl
abbrev J36(x y z:F2):Value:=LV .u64 (E2 x++(E2 y++E2 z))
theorem Bl:(List.replicate 36 0:List Nat)=E2 (Kf.K2.zero:F2)++(E2 (Kf.K2.zero:F2)++E2 (Kf.K2.zero:F2)):=by decide +kernel
theorem eR(x y z:F2):(E2 x++(E2 y++E2 z)).length=36:=by simp
theorem uh{a b:Prop}(k:b)(h:Rm b→a:=by intro k;refine aq (E:=116) (v:=LV .u64 (List.replicate 36 0)) (by kernel_rfl) (by rfl) ?_;exact k.h):a:=h ⟨k⟩
theorem ce{a b:Prop}(k:b)(h:Rm b→a:=by intro k;(first|refine Z01 ?_|refine Z03 ?_|refine Z04 ?_|refine Z05 ?_|refine Z06 ?_|refine Z07 ?_|refine Z08 ?_|refine Z09 ?_|refine Z10 ?_|refine Z11 ?_|refine Z12 ?_|refine Z13 ?_|refine Z14 ?_|refine Z15 ?_|refine Z17 ?_|refine Z18 ?_|refine Z24 ?_|refine Z26 ?_|refine Z27 ?_|refine Z29 ?_|refine Z30 ?_|refine Z31 ?_|refine Z32 ?_|refine Z67 ?_);exact k.h):a:=h ⟨k⟩
theorem jg{a b:Prop}(k:b)(h:Rm b→a:=by intro k;refine oA (by rfl) (show _=some (24,12)from rfl) (by rfl) (by rfl) ?_;exact k.h):a:=h ⟨k⟩
theorem jP{a b:Prop}(k:b)(h:Rm b→a:=by intro k;refine R.Zpp (by rfl) (by intro _ _ _;(refine bJ (by rfl) fd (by rfl) (by rfl) (ab.t0 (ak _)) (by rfl) ?_);exact Zq) ?_;exact k.h):a:=h ⟨k⟩
theorem jQ{a b:Prop}(k:b)(h:Rm b→a:=by intro k;refine R.Zpp (by rfl) (by intro _ _ _;(refine bJ (by rfl) fd (by rfl) (by rfl) (ab.t1 (ak _) (ak _)) (by rfl) ?_);exact Zq) ?_;exact k.h):a:=h ⟨k⟩
theorem jR{a b:Prop}(k:b)(h:Rm b→a:=by intro k;refine R.Zpp (by rfl) (by intro _ _ _;(refine bJ (by rfl) fd (by rfl) (by rfl) (ab.t2 (ak _) (ak _) (ak _)) (by rfl) ?_);exact Zq) ?_;exact k.h):a:=h ⟨k⟩
theorem Db{a b:Prop}(k:b)(h:Rm b→a:=by intro k;refine bJ (by rfl) fd (by rfl) (by rfl) (ab.t0 (ak _)) (by rfl) ?_;exact k.h):a:=h ⟨k⟩
theorem Dc{a b:Prop}(k:b)(h:Rm b→a:=by intro k;refine bJ (by rfl) fd (by rfl) (by rfl) (ab.t1 (ak _) (ak _)) (by rfl) ?_;exact k.h):a:=h ⟨k⟩
theorem Dd{a b:Prop}(k:b)(h:Rm b→a:=by intro k;refine bJ (by rfl) fd (by rfl) (by rfl) (ab.t2 (ak _) (ak _) (ak _)) (by rfl) ?_;exact k.h):a:=h ⟨k⟩
theorem r9{a b:Prop}(k:b)(h:Rm b→a:=by intro k;refine tS (m:=12) (by rfl) (by rfl) (by kernel_rfl) (by rfl) (ak _) (ak _) (ak _) (by rfl) ?_;exact k.h):a:=h ⟨k⟩
theorem VA{a b:Prop}(k:b)(h:Rm b→a:=by intro k;refine R.Zps (by rfl) (by intro _ _ _;(refine aX (m:=36) (by rfl) (by rfl) fd (by rfl) (by simp) (eR _ _ _) ?_);exact Zqq) ?_;exact k.h):a:=h ⟨k⟩
theorem Py{a b:Prop}(k:b)(h:Rm b→a:=by intro k;refine R.Zpf (by rfl) (by intro _ _ _;(first|refine bK ?_|refine jg ?_|refine Z01 ?_|refine Z15 ?_|refine Z17 ?_|refine Z18 ?_);exact Zq) ?_;exact k.h):a:=h ⟨k⟩
theorem Dt{a b:Prop}(k:b)(h:Rm b→a:=by intro k;(first|refine Db ?_|refine Dc ?_|refine Dd ?_);exact k.h):a:=h ⟨k⟩
theorem Du{a b:Prop}(k:b)(h:Rm b→a:=by intro k;(first|refine bK ?_|refine eQ ?_|refine jg ?_);exact k.h):a:=h ⟨k⟩
theorem VQ{a b:Prop}(k:b)(h:Rm b→a:=by intro k;(first|refine bK ?_|refine Z01 ?_|refine Z15 ?_|refine Z17 ?_|refine Z18 ?_);exact k.h):a:=h ⟨k⟩
theorem Pz{a b:Prop}(k:b)(h:Rm b→a:=by intro k;refine R.Zpf (by rfl) (by intro _ _ _;(first|refine bK ?_|refine r9 ?_|refine Z01 ?_|refine Z15 ?_|refine Z17 ?_|refine Z18 ?_);exact Zq) ?_;exact k.h):a:=h ⟨k⟩
theorem V0{a b:Prop}(k:b)(h:Rm b→a:=by intro k;refine R.Zpf (by rfl) (by intro _ _ _;(first|refine VQ ?_);exact Zq) ?_;exact k.h):a:=h ⟨k⟩
theorem lE{a b:Prop}(k:b)(h:Rm b→a:=by intro k;(first|refine aA ?_|refine VA ?_);exact k.h):a:=h ⟨k⟩
theorem DF{a b:Prop}(k:b)(h:Rm b→a:=by intro k;(first|refine V0 ?_|refine aL ?_|refine cz ?_);exact k.h):a:=h ⟨k⟩
set_option maxHeartbeats 8000000 in
theorem r6(x y z:F2):Spec Tryz.prog 75 [J36 x y z] ai [] (IsV (J36 (Kf.K2.tX x y) (Kf.K2.tY x y) (Kf.K2.tZ y z))):=by
 refine ad Tryz.func75 rfl rfl rfl fun w _=>?_
 have hl0:=fun x=>ae 6 x
 have hle:=fun x:F2=>ak x
 have a1:=aF x x
 have a2:=aF y y
 have a3:=aF x (Kf.K2.mul y y)
 have a4:=cV (Kf.K2.td0 x y) (Kf.K2.td0 x y)
 have a5:=cV (Kf.K2.td1 x y) (Kf.K2.td1 x y)
 have a6:=cV (Kf.K2.mul x x) (Kf.K2.mul x x)
 have a7:=cV (Kf.K2.add (Kf.K2.mul x x) (Kf.K2.mul x x)) (Kf.K2.mul x x)
 have a8:=aF (Kf.K2.te x) (Kf.K2.te x)
 have a9:=cV (Kf.K2.td x y) (Kf.K2.td x y)
 have b1:=bG (Kf.K2.mul (Kf.K2.te x) (Kf.K2.te x)) (Kf.K2.add (Kf.K2.td x y) (Kf.K2.td x y))
 have b2:=aF (Kf.K2.mul y y) (Kf.K2.mul y y)
 have b3:=fun k=>cV (Kf.K2.tc y k) (Kf.K2.tc y k)
 have b4:=aF y z
 have b5:=cV (Kf.K2.mul y z) (Kf.K2.mul y z)
 have b6:=bG (Kf.K2.td x y) (Kf.K2.tX x y)
 have b7:=aF (Kf.K2.te x) (Kf.K2.sub (Kf.K2.td x y) (Kf.K2.tX x y))
 have b8:=bG (Kf.K2.mul (Kf.K2.te x) (Kf.K2.sub (Kf.K2.td x y) (Kf.K2.tX x y))) (Kf.K2.tc y 3)
 rw[show Kf.K2.mul x (Kf.K2.mul y y)=Kf.K2.td0 x y from rfl]at a3
 rw[show Kf.K2.add (Kf.K2.td0 x y) (Kf.K2.td0 x y)=Kf.K2.td1 x y from rfl]at a4
 rw[show Kf.K2.add (Kf.K2.td1 x y) (Kf.K2.td1 x y)=Kf.K2.td x y from rfl]at a5
 rw[show Kf.K2.add (Kf.K2.add (Kf.K2.mul x x) (Kf.K2.mul x x)) (Kf.K2.mul x x)=Kf.K2.te x from rfl]at a7
 rw[show Kf.K2.sub (Kf.K2.mul (Kf.K2.te x) (Kf.K2.te x)) (Kf.K2.add (Kf.K2.td x y) (Kf.K2.td x y))=Kf.K2.tX x y from rfl]at b1
 rw[show Kf.K2.mul (Kf.K2.mul y y) (Kf.K2.mul y y)=Kf.K2.tc y 0 from rfl]at b2
 have b3:∀k,Spec Tryz.prog 56 [LV .u64 (E2 (Kf.K2.tc y k)),LV .u64 (E2 (Kf.K2.tc y k))] ai [] (IsV (LV .u64 (E2 (Kf.K2.tc y (k+1))))):=b3
 rw[show Kf.K2.add (Kf.K2.mul y z) (Kf.K2.mul y z)=Kf.K2.tZ y z from rfl]at b5
 rw[show Kf.K2.sub (Kf.K2.mul (Kf.K2.te x) (Kf.K2.sub (Kf.K2.td x y) (Kf.K2.tX x y))) (Kf.K2.tc y 3)=Kf.K2.tY x y from rfl]at b8
 generalize Kf.K2.mul (Kf.K2.te x) (Kf.K2.sub (Kf.K2.td x y) (Kf.K2.tX x y))=c1 at *
 generalize Kf.K2.sub (Kf.K2.td x y) (Kf.K2.tX x y)=c2 at *
 generalize Kf.K2.mul y z=c3 at *
 generalize Kf.K2.mul (Kf.K2.te x) (Kf.K2.te x)=c4 at *
 generalize Kf.K2.add (Kf.K2.td x y) (Kf.K2.td x y)=c5 at *
 generalize Kf.K2.add (Kf.K2.mul x x) (Kf.K2.mul x x)=c6 at *
 generalize Kf.K2.mul x x=c7 at *
 generalize Kf.K2.mul y y=c8 at *
 generalize Kf.K2.tX x y=d1 at *
 generalize Kf.K2.tY x y=d2 at *
 generalize Kf.K2.tZ y z=d3 at *
 generalize Kf.K2.td x y=d4 at *
 generalize Kf.K2.td1 x y=d5 at *
 generalize Kf.K2.td0 x y=d6 at *
 generalize Kf.K2.te x=d7 at *
 generalize Kf.K2.tc y=tc at *
 repeat (first|(refine uh ?_;intro _)|refine ce ?_|refine Z81 fun _=>?_|refine Z82 fun _=>?_)
 refine R.af [0,1,2,3,4,5,6,7,8,9,10,11,12,13] (by rfl) ?_
 repeat (first|refine Py ?_|refine aL ?_|refine jP ?_|refine jQ ?_|refine jR ?_|refine cz ?_|refine ag a1 ?_|refine ag a2 ?_|refine aA ?_|(refine R.po (by rfl) (by rfl) (by intro _ _ _;refine aq (v:=LV .u64 (List.replicate 12 0)) (by rfl) (by rfl) fun _=>?_;exact R.eO) (by intro _ _ _;refine aq (v:=LV .u64 (List.replicate 12 0)) (by rfl) (by rfl) fun _=>?_;exact R.eO) (fun _=>?_) (fun _=>?_))|(refine fK ?_;intro _)|(refine aV ?_;intro _))
 all_goals
  repeat (first|refine Py ?_|refine aL ?_|refine jP ?_|refine jQ ?_|refine jR ?_|refine cz ?_|refine ag a1 ?_|refine ag a2 ?_|refine aA ?_|(refine R.po (by rfl) (by rfl) (by intro _ _ _;refine aq (v:=LV .u64 (List.replicate 12 0)) (by rfl) (by rfl) fun _=>?_;exact R.eO) (by intro _ _ _;refine aq (v:=LV .u64 (List.replicate 12 0)) (by rfl) (by rfl) fun _=>?_;exact R.eO) (fun _=>?_) (fun _=>?_))|(refine fK ?_;intro _)|(refine aV ?_;intro _))
 all_goals refine R.Zp0 ?_
 ·repeat (first|refine Dt ?_|(refine bI ?_;intro _)|refine Du ?_|refine y_4 a3 ?_|refine y_4 a4 ?_|refine y_4 a5 ?_|refine ce ?_|refine Z81 fun _=>?_|refine Z82 fun _=>?_)
  refine R.af [0,1,2,3,4,5,6] (by rfl) ?_
  repeat (first|refine DF ?_|refine ag a6 ?_|refine ag a7 ?_|refine aA ?_|(refine fK ?_;intro _)|(refine aV ?_;intro _))
  refine R.Zp0 ?_
  repeat (first|refine ce ?_|refine Z81 fun _=>?_|refine Z82 fun _=>?_)
  refine R.af [0,1,2,3,4,5,6,7,8] (by rfl) ?_
  repeat (first|refine DF ?_|refine ag a8 ?_|refine ag a9 ?_|refine ag b1 ?_|refine aA ?_|(refine fK ?_;intro _)|(refine aV ?_;intro _))
  refine R.Zp0 ?_
  repeat (first|refine y_4 b2 ?_|refine ce ?_|refine Z81 fun _=>?_|refine Z82 fun _=>?_)
  rename_i p1 p2 p3 p4 p5 p6 p7
  refine ay (ι:=Nat) (fun j=>j≤3) (fun j=>[(44,N .i64 j),(1,pt p1 0),(2,pt p2 0),(4,pt p4 0),(5,pt p5 0),(6,pt p6 0),(7,pt p7 0)])
   (fun j=>[.blk p4 (LV .u64 (E2 (tc j))) 34,.blk p7 (LV .u64 (E2 d1)) 34,.blk p6 (LV .u64 (E2 d7)) 34,.blk p5 (LV .u64 (E2 d4)) 34,.blk p2 (LV .u64 (List.replicate 36 0)) 116,.blk p1 (J36 x y z) 116]) (fun j=>3-j) 0 (by omega) sbq sw ?_
  intro j hj
  repeat (first|refine ce ?_|refine Z81 fun _=>?_|refine Z82 fun _=>?_)
  refine an (by rfl) (fun h=>?_) (fun h=>?_)
  ·repeat (first|refine y_4 (b3 j) ?_|refine ce ?_|refine Z81 fun _=>?_|refine Z82 fun _=>?_)
   exact ao (j+1) (by omega) (by omega) sbq sw
  ·have hj3:j=3:=by omega
   subst hj3
   repeat (first|refine Dt ?_|(refine bI ?_;intro _)|refine Du ?_|refine y_4 b4 ?_|refine ce ?_|refine Z81 fun _=>?_|refine Z82 fun _=>?_)
   refine R.af [0,1,2,3,4,5,6,7,8,9,10,11,12] (by rfl) ?_
   repeat (first|refine Pz ?_|refine aL ?_|refine cz ?_|refine ag b6 ?_|refine ag b7 ?_|refine ag b8 ?_|refine ag b5 ?_|refine lE ?_|(refine aV ?_;intro _))
   refine R.Zp0 ?_
   repeat (first|refine ce ?_|refine Z81 fun _=>?_|refine Z82 fun _=>?_)
   refine Zec fun _ hw=>aa hw SubW.nil ⟨?_,rfl⟩
   rfl
 ·repeat (first|refine Dt ?_|(refine bI ?_;intro _)|refine Du ?_|refine y_4 a3 ?_|refine y_4 a4 ?_|refine y_4 a5 ?_|refine ce ?_|refine Z81 fun _=>?_|refine Z82 fun _=>?_)
  refine R.af [0,1,2,3,4,5,6] (by rfl) ?_
  repeat (first|refine DF ?_|refine ag a6 ?_|refine ag a7 ?_|refine aA ?_|(refine fK ?_;intro _)|(refine aV ?_;intro _))
  refine R.Zp0 ?_
  repeat (first|refine ce ?_|refine Z81 fun _=>?_|refine Z82 fun _=>?_)
  refine R.af [0,1,2,3,4,5,6,7,8] (by rfl) ?_
  repeat (first|refine DF ?_|refine ag a8 ?_|refine ag a9 ?_|refine ag b1 ?_|refine aA ?_|(refine fK ?_;intro _)|(refine aV ?_;intro _))
  refine R.Zp0 ?_
  repeat (first|refine y_4 b2 ?_|refine ce ?_|refine Z81 fun _=>?_|refine Z82 fun _=>?_)
  rename_i p1 p2 p4 p3 p5 p6 p7
  refine ay (ι:=Nat) (fun j=>j≤3) (fun j=>[(44,N .i64 j),(1,pt p1 0),(2,pt p2 0),(4,pt p4 0),(5,pt p5 0),(6,pt p6 0),(7,pt p7 0)])
   (fun j=>[.blk p4 (LV .u64 (E2 (tc j))) 34,.blk p7 (LV .u64 (E2 d1)) 34,.blk p6 (LV .u64 (E2 d7)) 34,.blk p5 (LV .u64 (E2 d4)) 34,.blk p2 (LV .u64 (List.replicate 36 0)) 116,.blk p1 (J36 x y z) 116]) (fun j=>3-j) 0 (by omega) sbq sw ?_
  intro j hj
  repeat (first|refine ce ?_|refine Z81 fun _=>?_|refine Z82 fun _=>?_)
  refine an (by rfl) (fun h=>?_) (fun h=>?_)
  ·repeat (first|refine y_4 (b3 j) ?_|refine ce ?_|refine Z81 fun _=>?_|refine Z82 fun _=>?_)
   exact ao (j+1) (by omega) (by omega) sbq sw
  ·have hj3:j=3:=by omega
   subst hj3
   repeat (first|refine Dt ?_|(refine bI ?_;intro _)|refine Du ?_|refine y_4 b4 ?_|refine ce ?_|refine Z81 fun _=>?_|refine Z82 fun _=>?_)
   refine R.af [0,1,2,3,4,5,6,7,8,9,10,11,12] (by rfl) ?_
   repeat (first|refine Pz ?_|refine aL ?_|refine cz ?_|refine ag b6 ?_|refine ag b7 ?_|refine ag b8 ?_|refine ag b5 ?_|refine lE ?_|(refine aV ?_;intro _))
   refine R.Zp0 ?_
   repeat (first|refine ce ?_|refine Z81 fun _=>?_|refine Z82 fun _=>?_)
   refine Zec fun _ hw=>aa hw SubW.nil ⟨?_,rfl⟩
   rfl
theorem J0{a b:Prop}(k:b)(h:Rm b→a:=by intro k;refine aX (m:=36) (by rfl) (by rfl) fd (by rfl) (by simp) (eR _ _ _) ?_;exact k.h):a:=h ⟨k⟩
theorem J1{a b:Prop}(k:b)(h:Rm b→a:=by intro k;refine jG (t:=116) (k:=.u64) (z:=List.replicate 36 0) (by rfl) (by rfl) (by kernel_rfl) (by rfl) ?_;rw[Bl];exact k.h):a:=h ⟨k⟩
theorem Dv{a b:Prop}(k:b)(h:Rm b→a:=by intro k;(first|refine pf ?_|refine Db ?_|refine Dc ?_|refine Dd ?_);exact k.h):a:=h ⟨k⟩
theorem Kw{a b:Prop}(k:b)(h:Rm b→a:=by intro k;(first|refine nO ?_|refine bK ?_|refine eQ ?_|refine fJ ?_|refine fo ?_|refine fI ?_|refine jg ?_);exact k.h):a:=h ⟨k⟩
theorem VR{a b:Prop}(k:b)(h:Rm b→a:=by intro k;(first|refine bK ?_|refine fJ ?_|refine fo ?_|refine fI ?_|refine Z01 ?_|refine Z02 ?_|refine Z49 ?_|refine Z50 ?_|refine Z77 ?_|refine Z78 ?_|refine Z79 ?_);exact k.h):a:=h ⟨k⟩
theorem VS{a b:Prop}(k:b)(h:Rm b→a:=by intro k;(first|refine bK ?_|refine fJ ?_|refine fo ?_|refine fI ?_|refine jg ?_|refine Z01 ?_|refine Z02 ?_|refine Z49 ?_|refine Z50 ?_|refine Z77 ?_|refine Z78 ?_|refine Z79 ?_);exact k.h):a:=h ⟨k⟩
theorem DB{a b:Prop}(k:b)(h:Rm b→a:=by intro k;refine R.Zpf (by rfl) (by intro _ _ _;(first|refine VR ?_);exact Zq) ?_;exact k.h):a:=h ⟨k⟩
theorem V1{a b:Prop}(k:b)(h:Rm b→a:=by intro k;refine R.Zpf (by rfl) (by intro _ _ _;(first|refine VS ?_);exact Zq) ?_;exact k.h):a:=h ⟨k⟩
theorem KN{a b:Prop}(k:b)(h:Rm b→a:=by intro k;(first|refine DB ?_|refine aL ?_|refine lA ?_|refine jP ?_|refine jQ ?_|refine jR ?_|refine cz ?_);exact k.h):a:=h ⟨k⟩
theorem KO{a b:Prop}(k:b)(h:Rm b→a:=by intro k;(first|refine V1 ?_|refine aL ?_|refine lA ?_|refine jP ?_|refine jQ ?_|refine jR ?_|refine cz ?_);exact k.h):a:=h ⟨k⟩
set_option maxHeartbeats 8000000 in
theorem Mj(x y z qx qy:F2)(ho:Kf.K2.Onc b2c (Kf.K2.jp x y z)):
  ∃X Y Z,Kf.K2.jp X Y Z=Kf.K2.pa (Kf.K2.jp x y z) (some (qx,qy))∧Spec Tryz.prog 76 [J36 x y z,GE qx qy false] ai [] (IsV (J36 X Y Z)):=by
 by_cases hz:z=Kf.K2.zero
 ·refine⟨qx,qy,Kf.K2.one,?_,?_⟩
  ·rw[Kf.K2.AE p_3,Kf.K2.Ed hz];rfl
  ·have hz2:(decide (D 6 z.re.val=D 6 (Kf.K2.zero:F2).re.val)&&decide (D 6 z.im.val=D 6 (Kf.K2.zero:F2).im.val))=true:=by rw[hz];exact fM _
   refine ad Tryz.func76 rfl rfl rfl fun w _=>?_
   have hl0:=fun x=>ae 6 x
   have hle:=fun x:F2=>ak x
   repeat (first|refine Dv ?_|refine dJ hz2 ?_|(refine bI ?_;intro _)|(refine uh ?_;intro _)|refine nO ?_|refine zu ?_|refine NH ?_|refine bK ?_|refine eQ ?_|refine fJ ?_|refine fo ?_|refine fI ?_|refine jg ?_|refine r9 ?_|refine J0 ?_|refine Z01 ?_|refine Z02 ?_|refine Z03 ?_|refine Z04 ?_|refine Z05 ?_|refine Z06 ?_|refine Z07 ?_|refine Z08 ?_|refine Z09 ?_|refine Z10 ?_|refine Z11 ?_|refine Z12 ?_|refine Z13 ?_|refine Z14 ?_|refine Z24 ?_|refine Z26 ?_|refine Z27 ?_|refine Z29 ?_|refine Z30 ?_|refine Z31 ?_|refine Z32 ?_|refine Z49 ?_|refine Z50 ?_|refine Z51 ?_|refine Z52 ?_|refine Z67 ?_|refine Z77 ?_|refine Z78 ?_|refine Z79 ?_|refine Z81 fun _=>?_|refine Z82 fun _=>?_)
   refine Zec fun _ hw=>aa hw SubW.nil ⟨?_,rfl⟩
   rfl
 ·by_cases hh:Kf.K2.pH x z qx=Kf.K2.zero
  ·by_cases hr:Kf.K2.pR y z qy=Kf.K2.zero
   ·refine⟨Kf.K2.tX x y,Kf.K2.tY x y,Kf.K2.tZ y z,?_,?_⟩
    ·rw[Kf.K2.ti p_3 hz hh hr]
     exact Kf.K2.j9 p_3 no2 ho
    ·have ht:=r6 x y z
     generalize Kf.K2.tX x y=X at ht ⊢
     generalize Kf.K2.tY x y=Y at ht ⊢
     generalize Kf.K2.tZ y z=Z at ht ⊢
     have a1:=aF z z
     have a2:=aF qx (Kf.K2.mul z z)
     have a3:=bG (Kf.K2.mul qx (Kf.K2.mul z z)) x
     have a4:=aF (Kf.K2.mul z z) z
     have a5:=aF qy (Kf.K2.mul (Kf.K2.mul z z) z)
     have a6:=bG (Kf.K2.mul qy (Kf.K2.mul (Kf.K2.mul z z) z)) y
     rw[show Kf.K2.sub (Kf.K2.mul qx (Kf.K2.mul z z)) x=Kf.K2.pH x z qx from rfl]at a3
     rw[show Kf.K2.sub (Kf.K2.mul qy (Kf.K2.mul (Kf.K2.mul z z) z)) y=Kf.K2.pR y z qy from rfl]at a6
     generalize Kf.K2.mul qx (Kf.K2.mul z z)=c1 at a2 a3
     generalize Kf.K2.mul qy (Kf.K2.mul (Kf.K2.mul z z) z)=c2 at a5 a6
     generalize Kf.K2.mul (Kf.K2.mul z z) z=c3 at a4 a5
     generalize Kf.K2.mul z z=c4 at a1 a2 a4
     generalize Kf.K2.pH x z qx=h at *
     generalize Kf.K2.pR y z qy=r at *
     refine ad Tryz.func76 rfl rfl rfl fun w _=>?_
     have hl0:=fun x=>ae 6 x
     have hle:=fun x:F2=>ak x
     repeat (first|refine Dv ?_|refine dJ (cN hz) ?_|(refine bI ?_;intro _)|(refine uh ?_;intro _)|refine Kw ?_|refine y_4 a1 ?_|refine bo ?_|refine Z81 fun _=>?_|refine Z82 fun _=>?_)
     refine R.af [0,1,2,3,4,5,6,7,8] (by rfl) ?_
     repeat (first|refine KN ?_|refine ag a2 ?_|refine ag a3 ?_|refine aA ?_|(refine fK ?_;intro _)|(refine aV ?_;intro _))
     refine R.Zp0 ?_
     repeat (first|refine bo ?_|refine Z81 fun _=>?_|refine Z82 fun _=>?_)
     refine R.af [0,1,2,3,4,5,6,7,8,9,10,11] (by rfl) ?_
     repeat (first|refine KO ?_|refine ag a4 ?_|refine ag a5 ?_|refine ag a6 ?_|refine aA ?_|(refine fK ?_;intro _)|(refine aV ?_;intro _))
     refine R.Zp0 ?_
     have hh2:(decide (D 6 h.re.val=D 6 (Kf.K2.zero:F2).re.val)&&decide (D 6 h.im.val=D 6 (Kf.K2.zero:F2).im.val))=true:=by rw[hh];exact fM _
     have hr2:(decide (D 6 r.re.val=D 6 (Kf.K2.zero:F2).re.val)&&decide (D 6 r.im.val=D 6 (Kf.K2.zero:F2).im.val))=true:=by rw[hr];exact fM _
     repeat (first|refine dJ hh2 ?_|refine dJ hr2 ?_|(refine bI ?_;intro _)|refine y_4 ht ?_|refine J0 ?_|refine Z01 ?_|refine Z02 ?_|refine Z03 ?_|refine Z04 ?_|refine Z05 ?_|refine Z06 ?_|refine Z07 ?_|refine Z08 ?_|refine Z09 ?_|refine Z10 ?_|refine Z11 ?_|refine Z12 ?_|refine Z13 ?_|refine Z14 ?_|refine Z24 ?_|refine Z26 ?_|refine Z27 ?_|refine Z29 ?_|refine Z30 ?_|refine Z31 ?_|refine Z32 ?_|refine Z49 ?_|refine Z50 ?_|refine Z51 ?_|refine Z52 ?_|refine Z67 ?_|refine Z77 ?_|refine Z78 ?_|refine Z79 ?_|refine Z81 fun _=>?_|refine Z82 fun _=>?_)
     refine Zec fun _ hw=>aa hw SubW.nil ⟨?_,rfl⟩
     rfl
   ·refine⟨Kf.K2.zero,Kf.K2.zero,Kf.K2.zero,?_,?_⟩
    ·rw[Kf.K2.xy,Kf.K2.od p_3 hz hh hr]
    ·have a1:=aF z z
     have a2:=aF qx (Kf.K2.mul z z)
     have a3:=bG (Kf.K2.mul qx (Kf.K2.mul z z)) x
     have a4:=aF (Kf.K2.mul z z) z
     have a5:=aF qy (Kf.K2.mul (Kf.K2.mul z z) z)
     have a6:=bG (Kf.K2.mul qy (Kf.K2.mul (Kf.K2.mul z z) z)) y
     rw[show Kf.K2.sub (Kf.K2.mul qx (Kf.K2.mul z z)) x=Kf.K2.pH x z qx from rfl]at a3
     rw[show Kf.K2.sub (Kf.K2.mul qy (Kf.K2.mul (Kf.K2.mul z z) z)) y=Kf.K2.pR y z qy from rfl]at a6
     generalize Kf.K2.mul qx (Kf.K2.mul z z)=c1 at a2 a3
     generalize Kf.K2.mul qy (Kf.K2.mul (Kf.K2.mul z z) z)=c2 at a5 a6
     generalize Kf.K2.mul (Kf.K2.mul z z) z=c3 at a4 a5
     generalize Kf.K2.mul z z=c4 at a1 a2 a4
     generalize Kf.K2.pH x z qx=h at *
     generalize Kf.K2.pR y z qy=r at *
     refine ad Tryz.func76 rfl rfl rfl fun w _=>?_
     have hl0:=fun x=>ae 6 x
     have hle:=fun x:F2=>ak x
     repeat (first|refine Dv ?_|refine dJ (cN hz) ?_|(refine bI ?_;intro _)|(refine uh ?_;intro _)|refine Kw ?_|refine y_4 a1 ?_|refine bo ?_|refine Z81 fun _=>?_|refine Z82 fun _=>?_)
     refine R.af [0,1,2,3,4,5,6,7,8] (by rfl) ?_
     repeat (first|refine KN ?_|refine ag a2 ?_|refine ag a3 ?_|refine aA ?_|(refine fK ?_;intro _)|(refine aV ?_;intro _))
     refine R.Zp0 ?_
     repeat (first|refine bo ?_|refine Z81 fun _=>?_|refine Z82 fun _=>?_)
     refine R.af [0,1,2,3,4,5,6,7,8,9,10,11] (by rfl) ?_
     repeat (first|refine KO ?_|refine ag a4 ?_|refine ag a5 ?_|refine ag a6 ?_|refine aA ?_|(refine fK ?_;intro _)|(refine aV ?_;intro _))
     refine R.Zp0 ?_
     have hh2:(decide (D 6 h.re.val=D 6 (Kf.K2.zero:F2).re.val)&&decide (D 6 h.im.val=D 6 (Kf.K2.zero:F2).im.val))=true:=by rw[hh];exact fM _
     repeat (first|refine dJ (cN hr) ?_|refine dJ hh2 ?_|(refine bI ?_;intro _)|refine J1 ?_|refine J0 ?_|refine Z01 ?_|refine Z02 ?_|refine Z03 ?_|refine Z04 ?_|refine Z05 ?_|refine Z06 ?_|refine Z07 ?_|refine Z08 ?_|refine Z09 ?_|refine Z10 ?_|refine Z11 ?_|refine Z12 ?_|refine Z13 ?_|refine Z14 ?_|refine Z24 ?_|refine Z26 ?_|refine Z27 ?_|refine Z29 ?_|refine Z30 ?_|refine Z31 ?_|refine Z32 ?_|refine Z49 ?_|refine Z50 ?_|refine Z51 ?_|refine Z52 ?_|refine Z67 ?_|refine Z77 ?_|refine Z78 ?_|refine Z79 ?_|refine Z81 fun _=>?_|refine Z82 fun _=>?_)
     refine Zec fun _ hw=>aa hw SubW.nil ⟨?_,rfl⟩
     rfl
  ·refine⟨_,_,_,Kf.K2.u6 p_3 hz hh,?_⟩
   have b1:=aF (Kf.K2.pH x z qx) (Kf.K2.pH x z qx)
   have b2:=aF (Kf.K2.mul (Kf.K2.pH x z qx) (Kf.K2.pH x z qx)) (Kf.K2.pH x z qx)
   have b3:=aF x (Kf.K2.mul (Kf.K2.pH x z qx) (Kf.K2.pH x z qx))
   have b4:=aF (Kf.K2.pR y z qy) (Kf.K2.pR y z qy)
   have b5:=bG (Kf.K2.mul (Kf.K2.pR y z qy) (Kf.K2.pR y z qy)) (Kf.K2.mul (Kf.K2.mul (Kf.K2.pH x z qx) (Kf.K2.pH x z qx)) (Kf.K2.pH x z qx))
   have b6:=cV (Kf.K2.pV x (Kf.K2.pH x z qx)) (Kf.K2.pV x (Kf.K2.pH x z qx))
   have b7:=bG (Kf.K2.sub (Kf.K2.mul (Kf.K2.pR y z qy) (Kf.K2.pR y z qy)) (Kf.K2.mul (Kf.K2.mul (Kf.K2.pH x z qx) (Kf.K2.pH x z qx)) (Kf.K2.pH x z qx))) (Kf.K2.add (Kf.K2.pV x (Kf.K2.pH x z qx)) (Kf.K2.pV x (Kf.K2.pH x z qx)))
   have d1:=bG (Kf.K2.pV x (Kf.K2.pH x z qx)) (Kf.K2.pX x (Kf.K2.pH x z qx) (Kf.K2.pR y z qy))
   have d2:=aF (Kf.K2.pR y z qy) (Kf.K2.sub (Kf.K2.pV x (Kf.K2.pH x z qx)) (Kf.K2.pX x (Kf.K2.pH x z qx) (Kf.K2.pR y z qy)))
   have d3:=aF y (Kf.K2.mul (Kf.K2.mul (Kf.K2.pH x z qx) (Kf.K2.pH x z qx)) (Kf.K2.pH x z qx))
   have d4:=bG (Kf.K2.mul (Kf.K2.pR y z qy) (Kf.K2.sub (Kf.K2.pV x (Kf.K2.pH x z qx)) (Kf.K2.pX x (Kf.K2.pH x z qx) (Kf.K2.pR y z qy)))) (Kf.K2.mul y (Kf.K2.mul (Kf.K2.mul (Kf.K2.pH x z qx) (Kf.K2.pH x z qx)) (Kf.K2.pH x z qx)))
   have d5:=aF z (Kf.K2.pH x z qx)
   have a1:=aF z z
   have a2:=aF qx (Kf.K2.mul z z)
   have a3:=bG (Kf.K2.mul qx (Kf.K2.mul z z)) x
   have a4:=aF (Kf.K2.mul z z) z
   have a5:=aF qy (Kf.K2.mul (Kf.K2.mul z z) z)
   have a6:=bG (Kf.K2.mul qy (Kf.K2.mul (Kf.K2.mul z z) z)) y
   rw[show Kf.K2.sub (Kf.K2.mul qx (Kf.K2.mul z z)) x=Kf.K2.pH x z qx from rfl]at a3
   rw[show Kf.K2.sub (Kf.K2.mul qy (Kf.K2.mul (Kf.K2.mul z z) z)) y=Kf.K2.pR y z qy from rfl]at a6
   generalize Kf.K2.mul qx (Kf.K2.mul z z)=c1 at a2 a3
   generalize Kf.K2.mul qy (Kf.K2.mul (Kf.K2.mul z z) z)=c2 at a5 a6
   generalize Kf.K2.mul (Kf.K2.mul z z) z=c3 at a4 a5
   generalize Kf.K2.mul z z=c4 at a1 a2 a4
   generalize Kf.K2.pH x z qx=h at *
   generalize Kf.K2.pR y z qy=r at *
   refine ad Tryz.func76 rfl rfl rfl fun w _=>?_
   have hl0:=fun x=>ae 6 x
   have hle:=fun x:F2=>ak x
   repeat (first|refine Dv ?_|refine dJ (cN hz) ?_|(refine bI ?_;intro _)|(refine uh ?_;intro _)|refine Kw ?_|refine y_4 a1 ?_|refine bo ?_|refine Z81 fun _=>?_|refine Z82 fun _=>?_)
   refine R.af [0,1,2,3,4,5,6,7,8] (by rfl) ?_
   repeat (first|refine KN ?_|refine ag a2 ?_|refine ag a3 ?_|refine aA ?_|(refine fK ?_;intro _)|(refine aV ?_;intro _))
   refine R.Zp0 ?_
   repeat (first|refine bo ?_|refine Z81 fun _=>?_|refine Z82 fun _=>?_)
   refine R.af [0,1,2,3,4,5,6,7,8,9,10,11] (by rfl) ?_
   repeat (first|refine KO ?_|refine ag a4 ?_|refine ag a5 ?_|refine ag a6 ?_|refine aA ?_|(refine fK ?_;intro _)|(refine aV ?_;intro _))
   refine R.Zp0 ?_
   rw[show Kf.K2.mul x (Kf.K2.mul h h)=Kf.K2.pV x h from rfl]at b3
   rw[show Kf.K2.sub (Kf.K2.sub (Kf.K2.mul r r) (Kf.K2.mul (Kf.K2.mul h h) h)) (Kf.K2.add (Kf.K2.pV x h) (Kf.K2.pV x h))=Kf.K2.pX x h r from rfl]at b7
   rw[show Kf.K2.sub (Kf.K2.mul r (Kf.K2.sub (Kf.K2.pV x h) (Kf.K2.pX x h r))) (Kf.K2.mul y (Kf.K2.mul (Kf.K2.mul h h) h))=Kf.K2.pY x y h r from rfl]at d4
   generalize Kf.K2.pY x y h r=Y at *
   generalize Kf.K2.mul y (Kf.K2.mul (Kf.K2.mul h h) h)=e1 at *
   generalize Kf.K2.mul r (Kf.K2.sub (Kf.K2.pV x h) (Kf.K2.pX x h r))=e2 at *
   generalize Kf.K2.sub (Kf.K2.pV x h) (Kf.K2.pX x h r)=e3 at *
   generalize Kf.K2.pX x h r=X at *
   generalize Kf.K2.sub (Kf.K2.mul r r) (Kf.K2.mul (Kf.K2.mul h h) h)=e4 at *
   generalize Kf.K2.add (Kf.K2.pV x h) (Kf.K2.pV x h)=e5 at *
   generalize Kf.K2.pV x h=e6 at *
   generalize Kf.K2.mul (Kf.K2.mul h h) h=e7 at *
   generalize Kf.K2.mul h h=e8 at *
   generalize Kf.K2.mul r r=e9 at *
   generalize Kf.K2.mul z h=Z at *
   repeat (first|refine dJ (cN hh) ?_|refine bo ?_|refine Z81 fun _=>?_|refine Z82 fun _=>?_)
   repeat (first|(refine bI ?_;intro _)|refine y_4 b1 ?_|refine bo ?_|refine Z81 fun _=>?_|refine Z82 fun _=>?_)
   refine R.af [0,1,2,3,4,5,6,7,8,9,10] (by rfl) ?_
   repeat (first|refine DB ?_|refine aL ?_|refine jP ?_|refine jQ ?_|refine jR ?_|refine cz ?_|refine ag b2 ?_|refine ag b3 ?_|refine aA ?_|(refine R.po (by rfl) (by rfl) (by intro _ _ _;refine aq (v:=LV .u64 (List.replicate 12 0)) (by rfl) (by rfl) fun _=>?_;exact R.eO) (by intro _ _ _;refine aq (v:=LV .u64 (List.replicate 12 0)) (by rfl) (by rfl) fun _=>?_;exact R.eO) (fun _=>?_) (fun _=>?_))|(refine fK ?_;intro _)|(refine aV ?_;intro _))
   all_goals
    repeat (first|refine DB ?_|refine aL ?_|refine jP ?_|refine jQ ?_|refine jR ?_|refine cz ?_|refine ag b2 ?_|refine ag b3 ?_|refine aA ?_|(refine R.po (by rfl) (by rfl) (by intro _ _ _;refine aq (v:=LV .u64 (List.replicate 12 0)) (by rfl) (by rfl) fun _=>?_;exact R.eO) (by intro _ _ _;refine aq (v:=LV .u64 (List.replicate 12 0)) (by rfl) (by rfl) fun _=>?_;exact R.eO) (fun _=>?_) (fun _=>?_))|(refine fK ?_;intro _)|(refine aV ?_;intro _))
   all_goals refine R.Zp0 ?_
   all_goals
    repeat (first|refine bo ?_|refine Z81 fun _=>?_|refine Z82 fun _=>?_)
    refine R.af [0,1,2,3,4,5,6,7,8,9,10] (by rfl) ?_
    repeat (first|refine DB ?_|refine aL ?_|refine cz ?_|refine ag b4 ?_|refine ag b5 ?_|refine ag b6 ?_|refine ag b7 ?_|refine aA ?_|(refine fK ?_;intro _)|(refine aV ?_;intro _))
    refine R.Zp0 ?_
    repeat (first|refine bo ?_|refine Z81 fun _=>?_|refine Z82 fun _=>?_)
    refine R.af [0,1,2,3,4,5,6,7,8,9,10,11,12,13,14,15,16] (by rfl) ?_
    repeat (first|(refine R.Zpf (by rfl) (by intro _ _ _;(first|refine bK ?_|refine fJ ?_|refine fo ?_|refine fI ?_|refine jg ?_|refine r9 ?_|refine Z01 ?_|refine Z02 ?_|refine Z49 ?_|refine Z50 ?_|refine Z77 ?_|refine Z78 ?_|refine Z79 ?_);exact Zq) ?_)|refine aL ?_|refine jP ?_|refine jQ ?_|refine jR ?_|refine cz ?_|refine ag d1 ?_|refine ag d2 ?_|refine ag d3 ?_|refine ag d4 ?_|refine ag d5 ?_|refine lE ?_|(refine aV ?_;intro _))
    refine R.Zp0 ?_
    repeat (first|refine bo ?_|refine Z81 fun _=>?_|refine Z82 fun _=>?_)
    refine Zec fun _ hw=>aa hw SubW.nil ⟨?_,rfl⟩
    rfl
theorem FL{x y z:F2}(h:z≠Kf.K2.zero):(((decide (D 6 x.re.val=D 6 (Kf.K2.zero:F2).re.val)&&decide (D 6 x.im.val=D 6 (Kf.K2.zero:F2).im.val))&&(decide (D 6 y.re.val=D 6 (Kf.K2.zero:F2).re.val)&&decide (D 6 y.im.val=D 6 (Kf.K2.zero:F2).im.val)))&&(decide (D 6 z.re.val=D 6 (Kf.K2.zero:F2).re.val)&&decide (D 6 z.im.val=D 6 (Kf.K2.zero:F2).im.val)))=false:=by
 rw[cN h,Bool.and_false]
theorem OR{a b:Prop}(k:b)(h:Rm b→a:=by intro k;refine CQ (m:=6) (hr:=hc.symm) (by rfl) (by rfl) (by rfl) (by kernel_rfl) (by rfl) (by rfl) (by rfl) (by rfl) (by rfl) (by rfl) (by rfl) (by rfl) (by rfl) (by rfl) (by rfl) (by kernel_rfl) (by rfl) (by rfl) (by rfl) (by rfl) (by rfl) (by rfl) (by rfl) (by rfl) (by rfl) (by rfl) (by kernel_rfl) (by simp;done) (by simp;done) (by simp;done) (by simp;done) (by simp;done) (by simp;done) (by simp;done) (by simp;done) (by simp;done) (by simp;done) (by simp;done) (by simp;done) (by rfl) ?_;exact k.h):a:=h ⟨k⟩
theorem zb{a b:Prop}(k:b)(h:Rm b→a:=by intro k;refine bJ (by rfl) fd (by rfl) (by rfl) (ab.all (eR _ _ _)) (by rfl) ?_;exact k.h):a:=h ⟨k⟩
theorem PA{a b:Prop}(k:b)(h:Rm b→a:=by intro k;(first|refine nO ?_|refine J1 ?_|refine zb ?_|refine jg ?_|refine Db ?_|refine Dc ?_|refine Dd ?_|refine pc ?_|refine dt ?_|refine Z01 ?_|refine Z03 ?_|refine Z04 ?_|refine Z05 ?_|refine Z06 ?_|refine Z07 ?_|refine Z08 ?_|refine Z09 ?_|refine Z10 ?_|refine Z11 ?_|refine Z12 ?_|refine Z13 ?_|refine Z14 ?_|refine Z24 ?_|refine Z26 ?_|refine Z27 ?_|refine Z29 ?_|refine Z30 ?_|refine Z31 ?_|refine Z32 ?_|refine Z49 ?_|refine Z50 ?_|refine Z51 ?_|refine Z52 ?_|refine Z67 ?_|refine Z77 ?_|refine Z78 ?_|refine Z79 ?_);exact k.h):a:=h ⟨k⟩
set_option maxHeartbeats 8000000 in
theorem AJ(x y z:F2):Spec Tryz.prog 77 [J36 x y z] ai [] (IsV (GV (Kf.K2.jp x y z))):=by
 refine ad Tryz.func77 rfl rfl rfl fun w _=>?_
 have hl0:=fun x=>ae 6 x
 have hle:=fun x:F2=>ak x
 by_cases hz:z=Kf.K2.zero
 ·rw[Kf.K2.Ed hz,kD]
  have hz2:(decide (D 6 z.re.val=D 6 (Kf.K2.zero:F2).re.val)&&decide (D 6 z.im.val=D 6 (Kf.K2.zero:F2).im.val))=true:=by rw[hz];exact fM _
  obtain⟨c,hc⟩:∃c,c=(((decide (D 6 x.re.val=D 6 (Kf.K2.zero:F2).re.val)&&decide (D 6 x.im.val=D 6 (Kf.K2.zero:F2).im.val))&&(decide (D 6 y.re.val=D 6 (Kf.K2.zero:F2).re.val)&&decide (D 6 y.im.val=D 6 (Kf.K2.zero:F2).im.val)))&&(decide (D 6 z.re.val=D 6 (Kf.K2.zero:F2).re.val)&&decide (D 6 z.im.val=D 6 (Kf.K2.zero:F2).im.val))):=⟨_,rfl⟩
  cases c with
  | true=>
   repeat (first|refine OR ?_|refine dJ hz2 ?_|(refine co ?_;intro _)|refine PA ?_|refine Z81 fun _=>?_|refine Z82 fun _=>?_)
   refine aQ (m:=24) (by rfl) (by rfl) fd (by rfl) (by rfl) (by first|with_reducible assumption|simp) fun _ hw=>aa hw SubW.nil ⟨?_,rfl⟩
   rfl
  | false=>
   repeat (first|refine OR ?_|refine dJ hz2 ?_|(refine co ?_;intro _)|refine PA ?_|refine Z81 fun _=>?_|refine Z82 fun _=>?_)
   refine aQ (m:=24) (by rfl) (by rfl) fd (by rfl) (by rfl) (by first|with_reducible assumption|simp) fun _ hw=>aa hw SubW.nil ⟨?_,rfl⟩
   rfl
 ·rw[Kf.K2.pq hz,ji,Kf.K2.jx,Kf.K2.jy]
  have a1:=kw z
  have a2:=aF (Kf.K2.inv z) (Kf.K2.inv z)
  have a3:=aF x (Kf.K2.mul (Kf.K2.inv z) (Kf.K2.inv z))
  have a4:=aF (Kf.K2.mul (Kf.K2.inv z) (Kf.K2.inv z)) (Kf.K2.inv z)
  have a5:=aF y (Kf.K2.mul (Kf.K2.mul (Kf.K2.inv z) (Kf.K2.inv z)) (Kf.K2.inv z))
  generalize Kf.K2.mul y (Kf.K2.mul (Kf.K2.mul (Kf.K2.inv z) (Kf.K2.inv z)) (Kf.K2.inv z))=c1 at *
  generalize Kf.K2.mul (Kf.K2.mul (Kf.K2.inv z) (Kf.K2.inv z)) (Kf.K2.inv z)=c2 at *
  generalize Kf.K2.mul x (Kf.K2.mul (Kf.K2.inv z) (Kf.K2.inv z))=c3 at *
  generalize Kf.K2.mul (Kf.K2.inv z) (Kf.K2.inv z)=c4 at *
  generalize Kf.K2.inv z=c5 at *
  repeat (first|(refine CQ (m:=6) (hr:=FL hz) (by rfl) (by rfl) (by rfl) (by kernel_rfl) (by rfl) (by rfl) (by rfl) (by rfl) (by rfl) (by rfl) (by rfl) (by rfl) (by rfl) (by rfl) (by rfl) (by kernel_rfl) (by rfl) (by rfl) (by rfl) (by rfl) (by rfl) (by rfl) (by rfl) (by rfl) (by rfl) (by rfl) (by kernel_rfl) (by simp;done) (by simp;done) (by simp;done) (by simp;done) (by simp;done) (by simp;done) (by simp;done) (by simp;done) (by simp;done) (by simp;done) (by simp;done) (by simp;done) (by rfl) ?_)|refine dJ (cN hz) ?_|(refine bI ?_;intro _)|(refine co ?_;intro _)|refine nO ?_|refine J1 ?_|refine zb ?_|refine jg ?_|refine Db ?_|refine Dc ?_|refine Dd ?_|refine y_4 a1 ?_|refine y_4 a2 ?_|refine pb ?_|refine Z81 fun _=>?_|refine Z82 fun _=>?_)
  refine R.af [0,1,2,3,4,5,6,7,8,9,10,11] (by rfl) ?_
  repeat (first|(refine R.Zpf (by rfl) (by intro _ _ _;(first|refine bK ?_|refine eP ?_|refine fo ?_|refine fI ?_|refine yZ ?_|refine Z01 ?_|refine Z49 ?_|refine Z50 ?_|refine Z77 ?_|refine Z78 ?_|refine Z79 ?_);exact Zq) ?_)|refine aL ?_|refine jP ?_|refine jQ ?_|refine jR ?_|refine cz ?_|refine ag a3 ?_|refine ag a4 ?_|refine ag a5 ?_|refine gb ?_|(refine aV ?_;intro _))
  refine R.Zp0 ?_
  repeat (first|refine pb ?_|refine Z81 fun _=>?_|refine Z82 fun _=>?_)
  refine aQ (m:=24) (by rfl) (by rfl) fd (by rfl) (by rfl) (by first|with_reducible assumption|simp) fun _ hw=>aa hw SubW.nil ⟨?_,rfl⟩
  rfl
theorem Lw{P:Kf.K2.Pt p}(h:Kf.K2.Onc b2c P):Spec Tryz.prog 60 [GV P] ai [] (IsV (.bool true)):=by
 cases P with
 | none=>
  have:=xe (ap (Kf.K2.zero:F2).re) (ap (Kf.K2.zero:F2).im) (ap (Kf.K2.zero:F2).re) (ap (Kf.K2.zero:F2).im) true
  rwa [Bool.true_or]at this
 | some q=>
  have:=xe (ap q.1.re) (ap q.1.im) (ap q.2.re) (ap q.2.im) false
  rwa [bq,bq,Bool.false_or,decide_eq_true (show Kf.K2.mul q.2 q.2=Kf.K2.add (Kf.K2.mul (Kf.K2.mul q.1 q.1) q.1) b2c from h)]at this
theorem De{a b:Prop}(k:b)(h:Rm b→a:=by intro k;(first|refine jc ?_|refine g9 ?_|refine Z01 ?_|refine Z02 ?_|refine Z03 ?_|refine Z04 ?_|refine Z05 ?_|refine Z06 ?_|refine Z07 ?_|refine Z08 ?_|refine Z09 ?_|refine Z10 ?_|refine Z11 ?_|refine Z12 ?_|refine Z13 ?_|refine Z14 ?_|refine Z16 ?_|refine Z17 ?_|refine Z18 ?_|refine Z20 ?_|refine Z21 ?_|refine Z22 ?_|refine Z23 ?_|refine Z24 ?_|refine Z26 ?_|refine Z27 ?_|refine Z29 ?_|refine Z30 ?_|refine Z31 ?_|refine Z32 ?_|refine Z36 ?_|refine Z37 ?_|refine Z38 ?_|refine Z40 ?_|refine Z42 ?_|refine Z54 ?_|refine Z67 ?_|refine Z71 ?_);exact k.h):a:=h ⟨k⟩
theorem lC{a b:Prop}(k:b)(h:Rm b→a:=by intro k;(first|refine Z01 ?_|refine Z02 ?_|refine Z03 ?_|refine Z04 ?_|refine Z05 ?_|refine Z06 ?_|refine Z07 ?_|refine Z08 ?_|refine Z09 ?_|refine Z10 ?_|refine Z11 ?_|refine Z12 ?_|refine Z13 ?_|refine Z14 ?_|refine Z16 ?_|refine Z17 ?_|refine Z18 ?_|refine Z20 ?_|refine Z21 ?_|refine Z22 ?_|refine Z23 ?_|refine Z24 ?_|refine Z26 ?_|refine Z27 ?_|refine Z29 ?_|refine Z30 ?_|refine Z31 ?_|refine Z32 ?_|refine Z36 ?_|refine Z37 ?_|refine Z38 ?_|refine Z40 ?_|refine Z42 ?_|refine Z54 ?_|refine Z67 ?_|refine Z71 ?_);exact k.h):a:=h ⟨k⟩
set_option maxHeartbeats 8000000 in
theorem uY{P:Kf.K2.Pt p}(h:Kf.K2.Onc b2c P){a b e f:Nat}(ha:a<W^6)(hb:b<W^6)(he:e<W^6)(hf:f<W^6)(i:Bool)(hP:P=ptv (k2 a b) (k2 e f) i)(s:Value)(xs:List Nat)(hx:Lt 18446744073709551616 xs)(hl:xs.length<65536):
  Spec Tryz.prog 37 [s,G4 a b e f i] (fun w=>Rd w s (xs.map (N .u64))) [] (IsV (.tuple [GV (Kf.K2.tim P (V xs)),N .i64 0].toArray)):=by
 refine ad Tryz.func37 rfl rfl rfl fun w hr=>?_
 have hr:=RdC.mk0 hr
 have hl0:=fun x=>ae 6 x
 have hle:=fun x:F2=>ak x
 have h1:=kK ha hb he hf i
 rw[← hP]at h1
 have h2:=Lw h
 cases P with
 | none=>
  rw[Kf.K2.f7]
  rw[kD]at h1 h2 ⊢
  repeat (first|refine du ?_|refine fm ?_|refine dt ?_|(refine co ?_;intro _)|refine bK ?_|refine eQ ?_|refine fo ?_|refine y_4 h1 ?_|refine y_4 h2 ?_|refine De ?_|refine Z81 fun _=>?_|refine Z82 fun _=>?_)
  repeat (first|with_reducible refine dg ?_|refine lC ?_|refine Z81 fun _=>?_|refine Z82 fun _=>?_)
  refine bH (m:=24) (by rfl) (by rfl) (by rfl) fd (by rfl) (by rfl) (by first|with_reducible assumption|simp) fun _ hw=>aa hw SubW.nil ⟨?_,rfl⟩
  rfl
 | some q=>
  obtain⟨qx,qy⟩:=q
  rw[ji]at h1 h2
  have hz:V xs/2^(64*xs.length)=0:=Nat.div_eq_of_lt (by rw[Nat.pow_mul,← W_2];exact uz hx)
  repeat (first|refine du ?_|refine fm ?_|refine dt ?_|(refine co ?_;intro _)|refine bK ?_|refine eQ ?_|refine fo ?_|refine y_4 h1 ?_|refine y_4 h2 ?_|(refine uh ?_;intro _)|refine De ?_|refine Z81 fun _=>?_|refine Z82 fun _=>?_)
  rename_i p3 p4 p6
  refine ay (ι:=Nat×F2×F2×F2) (fun q=>q.1≤64*xs.length∧Kf.K2.jp q.2.1 q.2.2.1 q.2.2.2=Kf.K2.tim (some (qx,qy)) (V xs/2^q.1)) (fun q=>[(0,s),(3,pt p3 0),(4,pt p4 0),(6,pt p6 0),(7,.int .i64 ((q.1:Int)-1))])
   (fun q=>[.blk p6 (J36 q.2.1 q.2.2.1 q.2.2.2) 116,.blk p3 (GE qx qy false) 36,.blk p4 (GL (List.replicate 24 0) false) 36]) (fun q=>q.1) (64*xs.length,Kf.K2.zero,Kf.K2.zero,Kf.K2.zero) ⟨Nat.le_refl _,by simp only;rw[hz,Kf.K2.xy];rfl⟩ sbq (by simp only[J36];rw[← Bl];exact sw) ?_
  rintro⟨j,X,Y,Z⟩ ⟨hj,hjp⟩
  simp only at hj hjp ⊢
  repeat (first|refine lC ?_|refine Z81 fun _=>?_|refine Z82 fun _=>?_)
  refine an (by rfl) (fun hc=>?_) (fun hc=>?_)
  ·have h0:(0:Int)≤(j:Int)-1:=hc
   obtain⟨i,rfl⟩:∃i,j=i+1:=⟨j-1,by omega⟩
   rw[show((i+1:Nat):Int)-1=Int.ofNat i by simp]
   have hst:=mw (V xs) i
   have hbt:=mv hx i
   generalize V xs/2^(i+1)=m at hst hjp
   have ht:=r6 X Y Z
   have hoj:Kf.K2.Onc b2c (Kf.K2.jp X Y Z):=by rw[hjp];exact Kf.K2.cW p_3 h m
   have hjt:=Kf.K2.j9 p_3 no2 hoj
   rw[hjp,← Kf.K2.fj p_3 no2 h]at hjt
   generalize Kf.K2.tX X Y=X2 at ht hjt
   generalize Kf.K2.tY X Y=Y2 at ht hjt
   generalize Kf.K2.tZ Y Z=Z2 at ht hjt
   repeat (first|refine zb ?_|refine y_4 ht ?_|refine aX (m:=36) (by rfl) (by rfl) fd (by rfl) (eR _ _ _) (eR _ _ _) ?_|refine ib (by rfl) (by rfl) (show i%64≤64 by omega) (by rfl) ?_|rw[hbt]|refine lC ?_|refine Z81 fun _=>?_|refine Z82 fun _=>?_)
   refine an (by rfl) (fun hb=>?_) (fun hb=>?_)
   ·have hx1:V xs/2^i=m+m:=by omega
    repeat (first|refine lC ?_|refine Z81 fun _=>?_|refine Z82 fun _=>?_)
    refine ao (i,X2,Y2,Z2) ⟨by simp only;omega,by simp only;rw[hjt,hx1]⟩ (by simp only;omega) ?_ sw
    rw[show((i:Int)-1)=Int.ofNat i-Int.ofNat 1 from rfl]
    exact sbq
   ·have hx1:V xs/2^i=m+m+1:=by omega
    have ho2:Kf.K2.Onc b2c (Kf.K2.jp X2 Y2 Z2):=by rw[hjt];exact Kf.K2.cW p_3 h _
    obtain⟨X3,Y3,Z3,hj3,hs3⟩:=Mj X2 Y2 Z2 qx qy ho2
    rw[hjt,show Kf.K2.pa (Kf.K2.tim (some (qx,qy)) (m+m)) (some (qx,qy))=Kf.K2.tim (some (qx,qy)) (m+m+1)from rfl]at hj3
    repeat (first|refine zb ?_|refine du ?_|refine y_4 hs3 ?_|refine aX (m:=36) (by rfl) (by rfl) fd (by rfl) (eR _ _ _) (eR _ _ _) ?_|refine Z01 ?_|refine Z02 ?_|refine Z03 ?_|refine Z04 ?_|refine Z05 ?_|refine Z06 ?_|refine Z07 ?_|refine Z08 ?_|refine Z09 ?_|refine Z10 ?_|refine Z11 ?_|refine Z12 ?_|refine Z13 ?_|refine Z14 ?_|refine Z16 ?_|refine Z17 ?_|refine Z18 ?_|refine Z20 ?_|refine Z21 ?_|refine Z22 ?_|refine Z23 ?_|refine Z24 ?_|refine Z26 ?_|refine Z27 ?_|refine Z29 ?_|refine Z30 ?_|refine Z31 ?_|refine Z32 ?_|refine Z36 ?_|refine Z37 ?_|refine Z38 ?_|refine Z40 ?_|refine Z42 ?_|refine Z54 ?_|refine Z67 ?_|refine Z71 ?_|refine Z81 fun _=>?_|refine Z82 fun _=>?_)
    refine ao (i,X3,Y3,Z3) ⟨by simp only;omega,by simp only;rw[hj3,hx1]⟩ (by simp only;omega) ?_ sw
    rw[show((i:Int)-1)=Int.ofNat i-Int.ofNat 1 from rfl]
    exact sbq
  ·have hp0:¬(0:Int)≤(j:Int)-1:=hc
   have hj0:j=0:=by omega
   subst hj0
   rw[Nat.pow_zero,Nat.div_one]at hjp
   have hpt:=AJ X Y Z
   rw[hjp]at hpt
   obtain⟨x1,y1,i1,hq⟩:∃x1 y1 i1,GV (Kf.K2.tim (some (qx,qy)) (V xs))=GE x1 y1 i1:=⟨_,_,_,rfl⟩
   rw[hq]at hpt ⊢
   repeat (first|refine zb ?_|refine y_4 hpt ?_|refine dt ?_|refine Z01 ?_|refine Z02 ?_|refine Z03 ?_|refine Z04 ?_|refine Z05 ?_|refine Z06 ?_|refine Z07 ?_|refine Z08 ?_|refine Z09 ?_|refine Z10 ?_|refine Z11 ?_|refine Z12 ?_|refine Z13 ?_|refine Z14 ?_|refine Z16 ?_|refine Z17 ?_|refine Z18 ?_|refine Z20 ?_|refine Z21 ?_|refine Z22 ?_|refine Z23 ?_|refine Z24 ?_|refine Z26 ?_|refine Z27 ?_|refine Z29 ?_|refine Z30 ?_|refine Z31 ?_|refine Z32 ?_|refine Z36 ?_|refine Z37 ?_|refine Z38 ?_|refine Z40 ?_|refine Z42 ?_|refine Z54 ?_|refine Z67 ?_|refine Z71 ?_|refine Z81 fun _=>?_|refine Z82 fun _=>?_)
   repeat (first|with_reducible refine dg ?_|refine lC ?_|refine Z81 fun _=>?_|refine Z82 fun _=>?_)
   refine bH (m:=24) (by rfl) (by rfl) (by rfl) fd (by rfl) (by rfl) (by first|with_reducible assumption|simp) fun _ hw=>aa hw SubW.nil ⟨?_,rfl⟩
   rfl
end
section
attribute [local irreducible] Code.wp wpList Af bodyPost L.Go ab
open Num
attribute [local simp] ae
def al(a b:Fq):Fq:=a*b
def cU(a b:Fq):Fq:=a+b
def cw(a b:Fq):Fq:=a-b
def gV(a:Fq):Fq:=-a
def dF(a:Fq):Fq:=Kf.inv a
abbrev Q6(x:Fq):List Nat:=D 6 x.val
theorem bU(x y:Fq):Spec Tryz.prog 50 [LV .u64 (Q6 x),LV .u64 (Q6 y)] ai [] (IsV (LV .u64 (Q6 (al x y)))):=dz x y
theorem lu(x y:Fq):Spec Tryz.prog 49 [LV .u64 (Q6 x),LV .u64 (Q6 y)] ai [] (IsV (LV .u64 (Q6 (cU x y)))):=gS x y
theorem i9(x y:Fq):Spec Tryz.prog 113 [LV .u64 (Q6 x),LV .u64 (Q6 y)] ai [] (IsV (LV .u64 (Q6 (cw x y)))):=lK x y
theorem Cy(x:Fq):Spec Tryz.prog 52 [LV .u64 (Q6 x)] ai [] (IsV (LV .u64 (Q6 (gV x)))):=jr x
theorem U7(x:Fq):Spec Tryz.prog 111 [LV .u64 (Q6 x)] ai [] (IsV (LV .u64 (Q6 (dF x)))):=lI x
theorem IZ(x:Fq):Spec Tryz.prog 98 [LV .u64 (Q6 x)] ai [] (IsV (LV .u64 (Q6 x))):=Ag x
def em(a:Fq):F2:=⟨a,0⟩
theorem bX(a b:Fq):em (al a b)=Kf.K2.mul (em a) (em b):=by
 unfold em al Kf.K2.mul
 exact Kf.K2.ext' (by grind) (by grind)
theorem j1(a b:Fq):em (cU a b)=Kf.K2.add (em a) (em b):=by
 unfold em cU Kf.K2.add
 exact Kf.K2.ext' rfl (by grind)
theorem nS(a b:Fq):em (cw a b)=Kf.K2.sub (em a) (em b):=by
 unfold em cw Kf.K2.sub
 exact Kf.K2.ext' rfl (by grind)
theorem Gx(a:Fq):em (gV a)=Kf.K2.neg (em a):=by
 unfold em gV Kf.K2.neg
 exact Kf.K2.ext' rfl (by grind)
theorem kH:em 0=Kf.K2.zero:=rfl
theorem Gy:em 1=Kf.K2.one:=rfl
theorem N2(a:Fq):(em a).re=a:=rfl
theorem Gv{a b:Fq}(h:em a=em b):a=b:=congrArg Kf.K2.re h
theorem sV{a:Fq}(h:a≠0):em a≠Kf.K2.zero:=fun e=>h (Gv e)
theorem QM{a:Fq}(h:a≠0):Kf.K2.inv (em a)=em (dF a):=by
 have h1:al a (dF a)=1:=Kf.kO fe h
 have h2:=bX a (dF a)
 rw[h1,Gy]at h2
 have h3:=Kf.K2.aI p_3 (sV h)
 have h4:=sV h
 rw[Kf.K2.mul_comm']at h2 h3
 exact Kf.K2.Bw p_3 h4 (h3.trans h2)
theorem Cg{x:F2}(h:Kf.K2.conj x=x):x=em x.re:=by
 have e:-x.im=x.im:=congrArg Kf.K2.im h
 have h2:(2:Fq)*x.im=0:=by grind
 exact Kf.K2.ext' rfl ((Kf.cR fe h2).resolve_left (Kf.Ba p_3))
abbrev HE(x y:Fq)(i:Bool):Value:=GL (Q6 x++Q6 y) i
abbrev HV(P:Kf.K2.Pt p):Value:=HE (gx P).re (gy P).re (gi P)
def c4:F2:=em (kp 4)
theorem jj:HV none=HE 0 0 true:=rfl
theorem gr(x y:Fq):HV (some (em x,em y))=HE x y false:=rfl
theorem iQ{P:Kf.K2.Pt p}(h:Kf.K2.Rl P):P=none∨∃x y,P=some (em x,em y):=by
 cases P with
 | none=>exact .inl rfl
 | some P=>exact .inr ⟨P.1.re,P.2.re,congrArg some (Prod.ext (Cg h.1) (Cg h.2))⟩
theorem KU:(List.replicate 12 0:List Nat)=Q6 0++Q6 0:=by decide +kernel
theorem Tt:(List.replicate (6+6) 0:List Nat)=Q6 0++Q6 0:=KU
theorem KT:(List.replicate 18 0:List Nat)=Q6 0++(Q6 0++Q6 0):=by decide +kernel
theorem UO:[1]++List.replicate (6-[1].length) 0=Q6 1:=by decide +kernel
theorem QX:[4]++List.replicate (6-[4].length) 0=Q6 (kp 4):=by decide +kernel
attribute [local irreducible] al cU cw gV dF em
theorem J2{a b:Prop}(k:b)(h:Rm b→a:=by intro k;refine bn (kk:=.u64) (vs:=[4]) (by rfl) (by rfl) (by rfl) (by rfl) (by rfl) (by rfl) (by rfl) (by rfl) ?_;rw[QX];exact k.h):a:=h ⟨k⟩
theorem Lz:Spec Tryz.prog 105 [] ai [] (IsV (LV .u64 (Q6 (kp 4)))):=by
 refine ad Tryz.func105 rfl rfl rfl fun w _=>?_
 repeat (first|(refine cJ ?_;intro _)|refine J2 ?_|refine Z03 ?_|refine Z04 ?_|refine Z05 ?_|refine Z06 ?_|refine Z07 ?_|refine Z08 ?_|refine Z09 ?_|refine Z10 ?_|refine Z11 ?_|refine Z12 ?_|refine Z13 ?_|refine Z14 ?_|refine Z29 ?_|refine Z30 ?_|refine Z31 ?_|refine Z32 ?_|refine Z82 fun _=>?_)
 refine Zec fun _ hw=>aa hw SubW.nil ⟨?_,rfl⟩
 rfl
def hbx:Fq:=kp 0x17f1d3a73197d7942695638c4fa9ac0fc3688c4f9774b905a14e3a3f171bac586c55e83ff97a1aeffb3af00adb22c6bb
def hby:Fq:=kp 0x08b3f481e3aaa0f1a09e30ed741d8ae4fcf5e095d5d00af600db18cb2c04b3edd03cc744a2888ae40caa232946c5e7e1
theorem LA:([18103045581585958587,7806400890582735599,11623291730934869080,14080658508445169925,2780237799254240271,1725392847304644500]++List.replicate (6-[18103045581585958587,7806400890582735599,11623291730934869080,14080658508445169925,2780237799254240271,1725392847304644500].length) 0:List Nat)=Q6 hbx:=by decide +kernel
theorem LB:([912580534683953121,15005087156090211044,61670280795567085,18227722000993880822,11573741888802228964,627113611842199793]++List.replicate (6-[912580534683953121,15005087156090211044,61670280795567085,18227722000993880822,11573741888802228964,627113611842199793].length) 0:List Nat)=Q6 hby:=by decide +kernel
def bh:Kf.K2.Pt p:=some (em hbx,em hby)
theorem dX{a b:Prop}(k:b)(h:Rm b→a:=by intro k;refine aq (E:=58) (v:=GL (List.replicate 12 0) false) (by kernel_rfl) (by rfl) ?_;exact k.h):a:=h ⟨k⟩
theorem J3{a b:Prop}(k:b)(h:Rm b→a:=by intro k;refine tT (m:=6) (by rfl) (by rfl) (by kernel_rfl) (by rfl) (ae 6 _) (ae 6 _) (by rfl) ?_;exact k.h):a:=h ⟨k⟩
theorem ii{a b:Prop}(k:b)(h:Rm b→a:=by intro k;refine eK (m:=12) (by rfl) (by rfl) fd (by rfl) (by first|with_reducible assumption|simp) (by first|with_reducible assumption|simp) ?_;exact k.h):a:=h ⟨k⟩
theorem qR:Spec Tryz.prog 32 [] ai [] (IsV (HV bh)):=by
 refine ad Tryz.func32 rfl rfl rfl fun w _=>?_
 have e:HV bh=HE hbx hby false:=gr _ _
 rw[e]
 repeat (first|(refine dX ?_;intro _)|(refine bn (kk:=.u64) (vs:=[18103045581585958587,7806400890582735599,11623291730934869080,14080658508445169925,2780237799254240271,1725392847304644500]) (by rfl) (by rfl) (by rfl) (by rfl) (by rfl) (by rfl) (by rfl) (by rfl) ?_;rw[LA])|(refine bn (kk:=.u64) (vs:=[912580534683953121,15005087156090211044,61670280795567085,18227722000993880822,11573741888802228964,627113611842199793]) (by rfl) (by rfl) (by rfl) (by rfl) (by rfl) (by rfl) (by rfl) (by rfl) ?_;rw[LB])|refine J3 ?_|refine ii ?_|refine Z03 ?_|refine Z04 ?_|refine Z05 ?_|refine Z06 ?_|refine Z07 ?_|refine Z08 ?_|refine Z09 ?_|refine Z10 ?_|refine Z11 ?_|refine Z12 ?_|refine Z13 ?_|refine Z14 ?_|refine Z29 ?_|refine Z30 ?_|refine Z31 ?_|refine Z32 ?_|refine Z82 fun _=>?_)
 refine aQ (m:=12) (by rfl) (by rfl) fd (by rfl) (by rfl) (by first|with_reducible assumption|simp) fun _ hw=>aa hw SubW.nil ⟨?_,rfl⟩
 rfl
theorem ct{a b:Prop}(k:b)(h:Rm b→a:=by intro k;refine oA (by rfl) (by first | exact(show _=some (0,6)from rfl) | exact(show _=some (6,6)from rfl) | exact(show _=some (12,6)from rfl) | exact(show _=some (12,1)from rfl)) (by rfl) (by rfl) ?_;exact k.h):a:=h ⟨k⟩
theorem J4{a b:Prop}(k:b)(h:Rm b→a:=by intro k;refine rT (m:=6) (by rfl) (by rfl) (by kernel_rfl) (by rfl) (by rfl) ?_;rw[Tt];exact k.h):a:=h ⟨k⟩
theorem se{a b:Prop}(k:b)(h:Rm b→a:=by intro k;refine R.Zpp (by rfl) (by intro _ _ _;(refine cO (by rfl) fd (by rfl) (by rfl) (ab.l (ae 6 _)) (by rfl) ?_);exact Zq) ?_;exact k.h):a:=h ⟨k⟩
theorem sf{a b:Prop}(k:b)(h:Rm b→a:=by intro k;refine R.Zpp (by rfl) (by intro _ _ _;(refine cO (by rfl) fd (by rfl) (by rfl) (ab.r (ae 6 _) (ae 6 _)) (by rfl) ?_);exact Zq) ?_;exact k.h):a:=h ⟨k⟩
theorem J5{a b:Prop}(k:b)(h:Rm b→a:=by intro k;refine R.Zps (by rfl) (by intro _ _ _;refine eK (m:=12) (by rfl) (by rfl) fd (by rfl) (by first|with_reducible assumption|simp) (by first|with_reducible assumption|simp) ?_;exact Zqq) ?_;exact k.h):a:=h ⟨k⟩
theorem oc{P:Kf.K2.Pt p}(h:Kf.K2.Rl P):Spec Tryz.prog 67 [HV P] ai [] (IsV (HV P)):=by
 refine ad Tryz.func67 rfl rfl rfl fun w _=>?_
 have hl0:=fun x=>ae 6 x
 rcases iQ h with rfl | ⟨x,y,rfl⟩
 ·rw[jj]
  repeat (first|refine fm ?_|refine ii ?_|(refine dX ?_;intro _)|refine ct ?_|refine J4 ?_|refine Z03 ?_|refine Z04 ?_|refine Z05 ?_|refine Z06 ?_|refine Z07 ?_|refine Z08 ?_|refine Z09 ?_|refine Z10 ?_|refine Z11 ?_|refine Z12 ?_|refine Z13 ?_|refine Z14 ?_|refine Z24 ?_|refine Z26 ?_|refine Z27 ?_|refine Z29 ?_|refine Z30 ?_|refine Z31 ?_|refine Z32 ?_|refine Z67 ?_|refine Z81 fun _=>?_|refine Z82 fun _=>?_)
  refine aQ (m:=12) (by rfl) (by rfl) fd (by rfl) (by rfl) (by first|with_reducible assumption|simp) fun _ hw=>aa hw SubW.nil ⟨?_,rfl⟩
  rfl
 ·rw[gr]
  have h1:=IZ x
  have h2:=IZ y
  repeat (first|refine fm ?_|(refine dX ?_;intro _)|refine ct ?_|refine Z03 ?_|refine Z04 ?_|refine Z05 ?_|refine Z06 ?_|refine Z07 ?_|refine Z08 ?_|refine Z09 ?_|refine Z10 ?_|refine Z11 ?_|refine Z12 ?_|refine Z13 ?_|refine Z14 ?_|refine Z24 ?_|refine Z26 ?_|refine Z27 ?_|refine Z29 ?_|refine Z30 ?_|refine Z31 ?_|refine Z32 ?_|refine Z67 ?_|refine Z81 fun _=>?_|refine Z82 fun _=>?_)
  refine R.af [0,1,2,3,4,5,6,7] (by rfl) ?_
  repeat (first|(refine R.Zpf (by rfl) (by intro _ _ _;(first|refine ct ?_|refine J3 ?_);exact Zq) ?_)|refine aL ?_|refine se ?_|refine sf ?_|refine ag h1 ?_|refine ag h2 ?_|refine aA ?_|refine J5 ?_|(refine aV ?_;intro _))
  refine R.Zp0 ?_
  repeat (first|refine bV ?_|refine Z81 fun _=>?_|refine Z82 fun _=>?_)
  refine aQ (m:=12) (by rfl) (by rfl) fd (by rfl) (by rfl) (by first|with_reducible assumption|simp) fun _ hw=>aa hw SubW.nil ⟨?_,rfl⟩
  rfl
theorem jh{a b:Prop}(k:b)(h:Rm b→a:=by intro k;refine dI (m:=12) (by rfl) fd (by rfl) (by rfl) (by first|with_reducible assumption|simp) (by rfl) ?_;exact k.h):a:=h ⟨k⟩
theorem zd{a b:Prop}(k:b)(h:Rm b→a:=by intro k;refine cO (by rfl) fd (by rfl) (by rfl) (ab.l (ae 6 _)) (by rfl) ?_;exact k.h):a:=h ⟨k⟩
theorem ze{a b:Prop}(k:b)(h:Rm b→a:=by intro k;refine cO (by rfl) fd (by rfl) (by rfl) (ab.r (ae 6 _) (ae 6 _)) (by rfl) ?_;exact k.h):a:=h ⟨k⟩
theorem OS{a b:Prop}(k:b)(h:Rm b→a:=by intro k;(first|refine nF (by rfl) (by rfl) fd (by rfl) (ae 6 _) (ae 6 _) (ae 6 _) ?_|refine Z03 ?_|refine Z04 ?_|refine Z05 ?_|refine Z06 ?_|refine Z07 ?_|refine Z08 ?_|refine Z09 ?_|refine Z10 ?_|refine Z11 ?_|refine Z12 ?_|refine Z13 ?_|refine Z14 ?_|refine Z24 ?_|refine Z26 ?_|refine Z27 ?_|refine Z29 ?_|refine Z30 ?_|refine Z31 ?_|refine Z32 ?_|refine Z67 ?_);exact k.h):a:=h ⟨k⟩
theorem Kx{a b:Prop}(k:b)(h:Rm b→a:=by intro k;(first|refine jh ?_|refine zd ?_|refine ze ?_|refine ii ?_);exact k.h):a:=h ⟨k⟩
theorem Eb{P:Kf.K2.Pt p}(h:Kf.K2.Rl P):Spec Tryz.prog 90 [HV P] ai [] (IsV (HV (Kf.K2.pn P))):=by
 refine ad Tryz.func90 rfl rfl rfl fun w _=>?_
 have hl0:=fun x=>ae 6 x
 have h1:=oc h
 rcases iQ h with rfl | ⟨x,y,rfl⟩
 ·have h2:=Cy 0
  have h0:gV 0=(0:Fq):=by unfold gV;grind
  rw[h0]at h2
  rw[show Kf.K2.pn (none:Kf.K2.Pt p)=none from rfl]
  rw[jj]at h1 ⊢
  repeat (first|refine Kx ?_|(refine dX ?_;intro _)|refine ct ?_|refine y_4 h1 ?_|refine y_4 h2 ?_|refine OS ?_|refine Z81 fun _=>?_|refine Z82 fun _=>?_)
  refine aQ (m:=12) (by rfl) (by rfl) fd (by rfl) (by rfl) (by first|with_reducible assumption|simp) fun _ hw=>aa hw SubW.nil ⟨?_,rfl⟩
  rfl
 ·have h2:=Cy y
  rw[show Kf.K2.pn (some (em x,em y))=some (em x,Kf.K2.neg (em y))from rfl,← Gx,gr x y,gr x (gV y)]
  rw[gr]at h1
  repeat (first|refine Kx ?_|(refine dX ?_;intro _)|refine ct ?_|refine y_4 h1 ?_|refine y_4 h2 ?_|refine OS ?_|refine Z81 fun _=>?_|refine Z82 fun _=>?_)
  refine aQ (m:=12) (by rfl) (by rfl) fd (by rfl) (by rfl) (by first|with_reducible assumption|simp) fun _ hw=>aa hw SubW.nil ⟨?_,rfl⟩
  rfl
theorem Ky{a b:Prop}(k:b)(h:Rm b→a:=by intro k;(first|refine ct ?_|refine Z01 ?_|refine Z02 ?_|refine Z49 ?_|refine Z50 ?_|refine Z77 ?_|refine Z78 ?_|refine Z79 ?_);exact k.h):a:=h ⟨k⟩
theorem HA:Spec Tryz.prog 53 [HV none] ai [] (IsV (.bool true)):=by
 refine ad Tryz.func53 rfl rfl rfl fun w _=>?_
 have hl0:=fun x=>ae 6 x
 rw[jj]
 repeat (first|refine pd ?_|refine Z81 fun _=>?_)
 refine au (by rfl) ?_
 repeat (first|(refine Zqf (by intro _ _ _;(first|refine Ky ?_);exact Zq) ?_)|refine C9 ?_|refine sv ?_|refine Zqn ?_)
 refine Zq0 ?_ (by kernel_rfl)
 repeat (first|refine pd ?_|refine Z81 fun _=>?_)
 refine Ze1 fun _ hw=>aa hw SubW.nil ⟨?_,rfl⟩
 rfl
theorem HB{x y:Fq}(h:Kf.K2.Onc c4 (some (em x,em y))):Spec Tryz.prog 53 [HV (some (em x,em y))] ai [] (IsV (.bool true)):=by
 refine ad Tryz.func53 rfl rfl rfl fun w _=>?_
 have hl0:=fun x=>ae 6 x
 have hd:decide (Q6 (al y y)=Q6 (cU (al (al x x) x) (kp 4)))=true:=by
  rw[decide_eq_true_iff,gM]
  apply Gv
  rw[bX,j1,bX,bX]
  exact h
 rw[gr]
 have a1:=bU y y
 have a2:=bU x x
 have a3:=bU (al x x) x
 have a4:=Lz
 have a5:=lu (al (al x x) x) (kp 4)
 clear h
 generalize cU (al (al x x) x) (kp 4)=c1 at *
 generalize al (al x x) x=c2 at *
 generalize al x x=c3 at *
 generalize al y y=c4 at *
 generalize kp 4=c5 at *
 repeat (first|refine pd ?_|refine Z81 fun _=>?_)
 refine au (by rfl) ?_
 repeat (first|(refine Zqf (by intro _ _ _;(first|refine Ky ?_);exact Zq) ?_)|refine C9 ?_|(refine Zqp (by intro _ _ _;(refine cO (by rfl) fd (by rfl) (by rfl) (ab.l (ae 6 _)) (by rfl) ?_);exact Zq) ?_)|(refine Zqp (by intro _ _ _;(refine cO (by rfl) fd (by rfl) (by rfl) (ab.r (ae 6 _) (ae 6 _)) (by rfl) ?_);exact Zq) ?_)|refine bT a1 ?_|refine bT a2 ?_|refine bT a3 ?_|refine bT a4 ?_|refine bT a5 ?_|refine sv ?_|refine Zqn ?_)
 refine Zq0 ?_ (by kernel_rfl)
 repeat (first|refine pd ?_|refine Z81 fun _=>?_)
 refine Ze1 fun _ hw=>aa hw SubW.nil ⟨?_,rfl⟩
 rw[← hd]
theorem mK{P:Kf.K2.Pt p}(h:Kf.K2.Onc c4 P)(hr:Kf.K2.Rl P):Spec Tryz.prog 53 [HV P] ai [] (IsV (.bool true)):=by
 rcases iQ hr with rfl | ⟨x,y,rfl⟩
 ·exact HA
 ·exact HB h
end
section
attribute [local irreducible] Code.wp wpList Af bodyPost L.Go ab
open Num
attribute [local simp] ae
abbrev J18(x y z:Fq):Value:=LV .u64 (Q6 x++(Q6 y++Q6 z))
theorem jk(x y z:Fq):(Q6 x++(Q6 y++Q6 z)).length=18:=by simp
def vL(x y:Fq):Fq:=al x (al y y)
def vM(x y:Fq):Fq:=cU (vL x y) (vL x y)
def qtd(x y:Fq):Fq:=cU (vM x y) (vM x y)
def qte(x:Fq):Fq:=cU (cU (al x x) (al x x)) (al x x)
def qtX(x y:Fq):Fq:=cw (al (qte x) (qte x)) (cU (qtd x y) (qtd x y))
def qtc(y:Fq):Nat→Fq
 | 0=>al (al y y) (al y y)
 | k+1=>cU (qtc y k) (qtc y k)
def qtY(x y:Fq):Fq:=cw (al (qte x) (cw (qtd x y) (qtX x y))) (qtc y 3)
def qtZ(y z:Fq):Fq:=cU (al y z) (al y z)
def qpH(x z q:Fq):Fq:=cw (al q (al z z)) x
def qpR(y z q:Fq):Fq:=cw (al q (al (al z z) z)) y
def qpV(x h:Fq):Fq:=al x (al h h)
def qpX(x h r:Fq):Fq:=cw (cw (al r r) (al (al h h) h)) (cU (qpV x h) (qpV x h))
def qpY(x y h r:Fq):Fq:=cw (al r (cw (qpV x h) (qpX x h r))) (al y (al (al h h) h))
theorem N6(x y:Fq):em (qtd x y)=Kf.K2.td (em x) (em y):=by
 simp only[qtd,vM,vL,Kf.K2.td,Kf.K2.td1,Kf.K2.td0,j1,bX]
theorem N7(x:Fq):em (qte x)=Kf.K2.te (em x):=by
 simp only[qte,Kf.K2.te,j1,bX]
theorem GC(x y:Fq):em (qtX x y)=Kf.K2.tX (em x) (em y):=by
 simp only[qtX,Kf.K2.tX,nS,j1,bX,N7,N6]
theorem N5(y:Fq):∀k,em (qtc y k)=Kf.K2.tc (em y) k
 | 0=>by simp only[qtc,Kf.K2.tc,bX]
 | k+1=>by simp only[qtc,Kf.K2.tc,j1,N5 y k]
theorem N3(x y:Fq):em (qtY x y)=Kf.K2.tY (em x) (em y):=by
 simp only[qtY,Kf.K2.tY,nS,bX,N7,N6,GC,N5]
theorem N4(y z:Fq):em (qtZ y z)=Kf.K2.tZ (em y) (em z):=by
 simp only[qtZ,Kf.K2.tZ,j1,bX]
theorem Gz(x z q:Fq):em (qpH x z q)=Kf.K2.pH (em x) (em z) (em q):=by
 simp only[qpH,Kf.K2.pH,nS,bX]
theorem GA(y z q:Fq):em (qpR y z q)=Kf.K2.pR (em y) (em z) (em q):=by
 simp only[qpR,Kf.K2.pR,nS,bX]
theorem N1(x h r:Fq):em (qpX x h r)=Kf.K2.pX (em x) (em h) (em r):=by
 simp only[qpX,Kf.K2.pX,qpV,Kf.K2.pV,nS,j1,bX]
theorem Ue(x y h r:Fq):em (qpY x y h r)=Kf.K2.pY (em x) (em y) (em h) (em r):=by
 simp only[qpY,Kf.K2.pY,N1,qpV,Kf.K2.pV,nS,bX]
def hj(x y z:Fq):Kf.K2.Pt p:=Kf.K2.jp (em x) (em y) (em z)
theorem jl{x:Fq}(h:x≠0):decide (D 6 x.val=D 6 (0:Fq).val)=false:=by
 rw[decide_eq_false_iff_not,gM];exact h
theorem mj(x:Fq):decide (D 6 x.val=D 6 x.val)=true:=decide_eq_true rfl
theorem WV:Nat.beq (Pr.pm p 381 16 ((p-1)/3)) 1=false:=by decide +kernel
theorem Cm:(p-1)/3<2^381:=by decide +kernel
theorem Mr:(Kf.K2.bW (Kf.K2.neg c4))^((p-1)/3)≠1:=by
 intro h
 have e:Kf.K2.bW (Kf.K2.neg c4)=kp 16:=by decide +kernel
 have h0:=WV
 have h1:=Pr.tH p 381 16 _ Cm
 rw[e]at h
 generalize (p-1)/3=k at h h0 h1
 rw[mM,h,wm]at h1
 rw[h1]at h0
 exact absurd h0 (by decide)
theorem n4:Kf.K2.No2 c4:=fun _ h=>Kf.K2.pK p_3 (by decide +kernel) (by decide +kernel) Mr (Kf.K2.aP h)
attribute [local irreducible] al cU cw gV dF em
theorem ui{a b:Prop}(k:b)(h:Rm b→a:=by intro k;refine aq (E:=107) (v:=LV .u64 (List.replicate 18 0)) (by kernel_rfl) (by rfl) ?_;exact k.h):a:=h ⟨k⟩
theorem si{a b:Prop}(k:b)(h:Rm b→a:=by intro k;refine R.Zpp (by rfl) (by intro _ _ _;(refine bJ (by rfl) fd (by rfl) (by rfl) (ab.t0 (ae 6 _)) (by rfl) ?_);exact Zq) ?_;exact k.h):a:=h ⟨k⟩
theorem sj{a b:Prop}(k:b)(h:Rm b→a:=by intro k;refine R.Zpp (by rfl) (by intro _ _ _;(refine bJ (by rfl) fd (by rfl) (by rfl) (ab.t1 (ae 6 _) (ae 6 _)) (by rfl) ?_);exact Zq) ?_;exact k.h):a:=h ⟨k⟩
theorem sn{a b:Prop}(k:b)(h:Rm b→a:=by intro k;refine R.Zpp (by rfl) (by intro _ _ _;(refine bJ (by rfl) fd (by rfl) (by rfl) (ab.t2 (ae 6 _) (ae 6 _) (ae 6 _)) (by rfl) ?_);exact Zq) ?_;exact k.h):a:=h ⟨k⟩
theorem Df{a b:Prop}(k:b)(h:Rm b→a:=by intro k;refine bJ (by rfl) fd (by rfl) (by rfl) (ab.t0 (ae 6 _)) (by rfl) ?_;exact k.h):a:=h ⟨k⟩
theorem Dg{a b:Prop}(k:b)(h:Rm b→a:=by intro k;refine bJ (by rfl) fd (by rfl) (by rfl) (ab.t1 (ae 6 _) (ae 6 _)) (by rfl) ?_;exact k.h):a:=h ⟨k⟩
theorem Dh{a b:Prop}(k:b)(h:Rm b→a:=by intro k;refine bJ (by rfl) fd (by rfl) (by rfl) (ab.t2 (ae 6 _) (ae 6 _) (ae 6 _)) (by rfl) ?_;exact k.h):a:=h ⟨k⟩
theorem VD{a b:Prop}(k:b)(h:Rm b→a:=by intro k;(first|refine Z01 ?_|refine Z15 ?_|refine Z17 ?_|refine Z18 ?_);exact k.h):a:=h ⟨k⟩
theorem J6{a b:Prop}(k:b)(h:Rm b→a:=by intro k;refine tS (m:=6) (by rfl) (by rfl) (by kernel_rfl) (by rfl) (ae 6 _) (ae 6 _) (ae 6 _) (by rfl) ?_;exact k.h):a:=h ⟨k⟩
theorem J7{a b:Prop}(k:b)(h:Rm b→a:=by intro k;refine R.Zps (by rfl) (by intro _ _ _;(refine aX (m:=18) (by rfl) (by rfl) fd (by rfl) (by simp) (jk _ _ _) ?_);exact Zqq) ?_;exact k.h):a:=h ⟨k⟩
theorem PB{a b:Prop}(k:b)(h:Rm b→a:=by intro k;refine R.Zpf (by rfl) (by intro _ _ _;(first|refine ct ?_|refine Z01 ?_|refine Z15 ?_|refine Z17 ?_|refine Z18 ?_);exact Zq) ?_;exact k.h):a:=h ⟨k⟩
theorem Dw{a b:Prop}(k:b)(h:Rm b→a:=by intro k;(first|refine Df ?_|refine Dg ?_|refine Dh ?_);exact k.h):a:=h ⟨k⟩
theorem Dx{a b:Prop}(k:b)(h:Rm b→a:=by intro k;refine R.Zpf (by rfl) (by intro _ _ _;(first|refine VD ?_);exact Zq) ?_;exact k.h):a:=h ⟨k⟩
theorem PC{a b:Prop}(k:b)(h:Rm b→a:=by intro k;refine R.Zpf (by rfl) (by intro _ _ _;(first|refine J6 ?_|refine Z01 ?_|refine Z15 ?_|refine Z17 ?_|refine Z18 ?_);exact Zq) ?_;exact k.h):a:=h ⟨k⟩
set_option maxHeartbeats 8000000 in
theorem qT(x y z:Fq):Spec Tryz.prog 68 [J18 x y z] ai [] (IsV (J18 (qtX x y) (qtY x y) (qtZ y z))):=by
 refine ad Tryz.func68 rfl rfl rfl fun w _=>?_
 have hl0:=fun x=>ae 6 x
 have a1:=bU x x
 have a2:=bU y y
 have a3:=bU x (al y y)
 have a4:=lu (vL x y) (vL x y)
 have a5:=lu (vM x y) (vM x y)
 have a6:=lu (al x x) (al x x)
 have a7:=lu (cU (al x x) (al x x)) (al x x)
 have a8:=bU (qte x) (qte x)
 have a9:=lu (qtd x y) (qtd x y)
 have b1:=i9 (al (qte x) (qte x)) (cU (qtd x y) (qtd x y))
 have b2:=bU (al y y) (al y y)
 have b3:=fun k=>lu (qtc y k) (qtc y k)
 have b4:=bU y z
 have b5:=lu (al y z) (al y z)
 have b6:=i9 (qtd x y) (qtX x y)
 have b7:=bU (qte x) (cw (qtd x y) (qtX x y))
 have b8:=i9 (al (qte x) (cw (qtd x y) (qtX x y))) (qtc y 3)
 rw[show al x (al y y)=vL x y from rfl]at a3
 rw[show cU (vL x y) (vL x y)=vM x y from rfl]at a4
 rw[show cU (vM x y) (vM x y)=qtd x y from rfl]at a5
 rw[show cU (cU (al x x) (al x x)) (al x x)=qte x from rfl]at a7
 rw[show cw (al (qte x) (qte x)) (cU (qtd x y) (qtd x y))=qtX x y from rfl]at b1
 rw[show al (al y y) (al y y)=qtc y 0 from rfl]at b2
 have b3:∀k,Spec Tryz.prog 49 [LV .u64 (Q6 (qtc y k)),LV .u64 (Q6 (qtc y k))] ai [] (IsV (LV .u64 (Q6 (qtc y (k+1))))):=b3
 rw[show cU (al y z) (al y z)=qtZ y z from rfl]at b5
 rw[show cw (al (qte x) (cw (qtd x y) (qtX x y))) (qtc y 3)=qtY x y from rfl]at b8
 generalize al (qte x) (cw (qtd x y) (qtX x y))=c1 at *
 generalize cw (qtd x y) (qtX x y)=c2 at *
 generalize al y z=c3 at *
 generalize al (qte x) (qte x)=c4 at *
 generalize cU (qtd x y) (qtd x y)=c5 at *
 generalize cU (al x x) (al x x)=c6 at *
 generalize al x x=c7 at *
 generalize al y y=c8 at *
 generalize qtX x y=d1 at *
 generalize qtY x y=d2 at *
 generalize qtZ y z=d3 at *
 generalize qtd x y=d4 at *
 generalize vM x y=d5 at *
 generalize vL x y=d6 at *
 generalize qte x=d7 at *
 generalize qtc y=tc at *
 repeat (first|(refine ui ?_;intro _)|refine ce ?_|refine Z81 fun _=>?_|refine Z82 fun _=>?_)
 refine R.af [0,1,2,3,4,5,6,7,8,9,10,11,12,13] (by rfl) ?_
 repeat (first|refine PB ?_|refine aL ?_|refine si ?_|refine sj ?_|refine sn ?_|refine ag a1 ?_|refine ag a2 ?_|refine aA ?_|(refine R.po (by rfl) (by rfl) (by intro _ _ _;refine aq (v:=LV .u64 (List.replicate 6 0)) (by rfl) (by rfl) fun _=>?_;exact R.eO) (by intro _ _ _;refine aq (v:=LV .u64 (List.replicate 6 0)) (by rfl) (by rfl) fun _=>?_;exact R.eO) (fun _=>?_) (fun _=>?_))|(refine ij ?_;intro _)|(refine aV ?_;intro _))
 all_goals
  repeat (first|refine PB ?_|refine aL ?_|refine si ?_|refine sj ?_|refine sn ?_|refine ag a1 ?_|refine ag a2 ?_|refine aA ?_|(refine R.po (by rfl) (by rfl) (by intro _ _ _;refine aq (v:=LV .u64 (List.replicate 6 0)) (by rfl) (by rfl) fun _=>?_;exact R.eO) (by intro _ _ _;refine aq (v:=LV .u64 (List.replicate 6 0)) (by rfl) (by rfl) fun _=>?_;exact R.eO) (fun _=>?_) (fun _=>?_))|(refine ij ?_;intro _)|(refine aV ?_;intro _))
 all_goals refine R.Zp0 ?_
 ·repeat (first|refine Dw ?_|(refine cJ ?_;intro _)|refine ct ?_|refine y_4 a3 ?_|refine y_4 a4 ?_|refine y_4 a5 ?_|refine ce ?_|refine Z81 fun _=>?_|refine Z82 fun _=>?_)
  refine R.af [0,1,2,3,4,5,6] (by rfl) ?_
  repeat (first|refine Dx ?_|refine aL ?_|refine ag a6 ?_|refine ag a7 ?_|refine aA ?_|(refine ij ?_;intro _)|(refine aV ?_;intro _))
  refine R.Zp0 ?_
  repeat (first|refine ce ?_|refine Z81 fun _=>?_|refine Z82 fun _=>?_)
  refine R.af [0,1,2,3,4,5,6,7,8] (by rfl) ?_
  repeat (first|refine Dx ?_|refine aL ?_|refine ag a8 ?_|refine ag a9 ?_|refine ag b1 ?_|refine aA ?_|(refine ij ?_;intro _)|(refine aV ?_;intro _))
  refine R.Zp0 ?_
  repeat (first|refine y_4 b2 ?_|refine ce ?_|refine Z81 fun _=>?_|refine Z82 fun _=>?_)
  rename_i p1 p2 p3 p4 p5 p6 p7
  refine ay (ι:=Nat) (fun j=>j≤3) (fun j=>[(44,N .i64 j),(1,pt p1 0),(2,pt p2 0),(4,pt p4 0),(5,pt p5 0),(6,pt p6 0),(7,pt p7 0)])
   (fun j=>[.blk p4 (LV .u64 (Q6 (tc j))) 32,.blk p7 (LV .u64 (Q6 d1)) 32,.blk p6 (LV .u64 (Q6 d7)) 32,.blk p5 (LV .u64 (Q6 d4)) 32,.blk p2 (LV .u64 (List.replicate 18 0)) 107,.blk p1 (J18 x y z) 107]) (fun j=>3-j) 0 (by omega) sbq sw ?_
  intro j hj
  repeat (first|refine ce ?_|refine Z81 fun _=>?_|refine Z82 fun _=>?_)
  refine an (by rfl) (fun h=>?_) (fun h=>?_)
  ·repeat (first|refine y_4 (b3 j) ?_|refine ce ?_|refine Z81 fun _=>?_|refine Z82 fun _=>?_)
   exact ao (j+1) (by omega) (by omega) sbq sw
  ·have hj3:j=3:=by omega
   subst hj3
   repeat (first|refine Dw ?_|(refine cJ ?_;intro _)|refine ct ?_|refine y_4 b4 ?_|refine ce ?_|refine Z81 fun _=>?_|refine Z82 fun _=>?_)
   refine R.af [0,1,2,3,4,5,6,7,8,9,10,11,12] (by rfl) ?_
   repeat (first|refine PC ?_|refine aL ?_|refine ag b6 ?_|refine ag b7 ?_|refine ag b8 ?_|refine ag b5 ?_|refine aA ?_|refine J7 ?_|(refine aV ?_;intro _))
   refine R.Zp0 ?_
   repeat (first|refine ce ?_|refine Z81 fun _=>?_|refine Z82 fun _=>?_)
   refine Zec fun _ hw=>aa hw SubW.nil ⟨?_,rfl⟩
   rfl
 ·repeat (first|refine Dw ?_|(refine cJ ?_;intro _)|refine ct ?_|refine y_4 a3 ?_|refine y_4 a4 ?_|refine y_4 a5 ?_|refine ce ?_|refine Z81 fun _=>?_|refine Z82 fun _=>?_)
  refine R.af [0,1,2,3,4,5,6] (by rfl) ?_
  repeat (first|refine Dx ?_|refine aL ?_|refine ag a6 ?_|refine ag a7 ?_|refine aA ?_|(refine ij ?_;intro _)|(refine aV ?_;intro _))
  refine R.Zp0 ?_
  repeat (first|refine ce ?_|refine Z81 fun _=>?_|refine Z82 fun _=>?_)
  refine R.af [0,1,2,3,4,5,6,7,8] (by rfl) ?_
  repeat (first|refine Dx ?_|refine aL ?_|refine ag a8 ?_|refine ag a9 ?_|refine ag b1 ?_|refine aA ?_|(refine ij ?_;intro _)|(refine aV ?_;intro _))
  refine R.Zp0 ?_
  repeat (first|refine y_4 b2 ?_|refine ce ?_|refine Z81 fun _=>?_|refine Z82 fun _=>?_)
  rename_i p1 p2 p4 p3 p5 p6 p7
  refine ay (ι:=Nat) (fun j=>j≤3) (fun j=>[(44,N .i64 j),(1,pt p1 0),(2,pt p2 0),(4,pt p4 0),(5,pt p5 0),(6,pt p6 0),(7,pt p7 0)])
   (fun j=>[.blk p4 (LV .u64 (Q6 (tc j))) 32,.blk p7 (LV .u64 (Q6 d1)) 32,.blk p6 (LV .u64 (Q6 d7)) 32,.blk p5 (LV .u64 (Q6 d4)) 32,.blk p2 (LV .u64 (List.replicate 18 0)) 107,.blk p1 (J18 x y z) 107]) (fun j=>3-j) 0 (by omega) sbq sw ?_
  intro j hj
  repeat (first|refine ce ?_|refine Z81 fun _=>?_|refine Z82 fun _=>?_)
  refine an (by rfl) (fun h=>?_) (fun h=>?_)
  ·repeat (first|refine y_4 (b3 j) ?_|refine ce ?_|refine Z81 fun _=>?_|refine Z82 fun _=>?_)
   exact ao (j+1) (by omega) (by omega) sbq sw
  ·have hj3:j=3:=by omega
   subst hj3
   repeat (first|refine Dw ?_|(refine cJ ?_;intro _)|refine ct ?_|refine y_4 b4 ?_|refine ce ?_|refine Z81 fun _=>?_|refine Z82 fun _=>?_)
   refine R.af [0,1,2,3,4,5,6,7,8,9,10,11,12] (by rfl) ?_
   repeat (first|refine PC ?_|refine aL ?_|refine ag b6 ?_|refine ag b7 ?_|refine ag b8 ?_|refine ag b5 ?_|refine aA ?_|refine J7 ?_|(refine aV ?_;intro _))
   refine R.Zp0 ?_
   repeat (first|refine ce ?_|refine Z81 fun _=>?_|refine Z82 fun _=>?_)
   refine Zec fun _ hw=>aa hw SubW.nil ⟨?_,rfl⟩
   rfl
end
section
attribute [local irreducible] Code.wp wpList Af bodyPost L.Go ab
open Num
attribute [local simp] ae
attribute [local irreducible] al cU cw gV dF em
theorem J8{a b:Prop}(k:b)(h:Rm b→a:=by intro k;refine aX (m:=18) (by rfl) (by rfl) fd (by rfl) (by simp) (jk _ _ _) ?_;exact k.h):a:=h ⟨k⟩
theorem J9{a b:Prop}(k:b)(h:Rm b→a:=by intro k;refine jG (t:=107) (k:=.u64) (z:=List.replicate 18 0) (by rfl) (by rfl) (by kernel_rfl) (by rfl) ?_;rw[KT];exact k.h):a:=h ⟨k⟩
theorem Dy{a b:Prop}(k:b)(h:Rm b→a:=by intro k;(first|refine zd ?_|refine ze ?_|refine Df ?_|refine Dg ?_|refine Dh ?_);exact k.h):a:=h ⟨k⟩
theorem KK{a b:Prop}(k:b)(h:Rm b→a:=by intro k;refine R.Zpf (by rfl) (by intro _ _ _;(first|refine Ky ?_);exact Zq) ?_;exact k.h):a:=h ⟨k⟩
theorem uv{a b:Prop}(k:b)(h:Rm b→a:=by intro k;(first|refine KK ?_|refine aL ?_|refine se ?_|refine sf ?_|refine si ?_|refine sj ?_|refine sn ?_);exact k.h):a:=h ⟨k⟩
set_option maxHeartbeats 8000000 in
theorem HC(x y z qx qy:Fq)(ho:Kf.K2.Onc c4 (hj x y z)):
  ∃X Y Z,hj X Y Z=Kf.K2.pa (hj x y z) (some (em qx,em qy))∧Spec Tryz.prog 69 [J18 x y z,HE qx qy false] ai [] (IsV (J18 X Y Z)):=by
 by_cases hz:z=(0:Fq)
 ·refine⟨qx,qy,(1:Fq),?_,?_⟩
  ·rw[hj,hj,hz,Gy,kH,Kf.K2.AE p_3,Kf.K2.xy];rfl
  ·have hz2:decide (D 6 z.val=D 6 (0:Fq).val)=true:=by rw[hz];exact mj _
   refine ad Tryz.func69 rfl rfl rfl fun w _=>?_
   have hl0:=fun x=>ae 6 x
   repeat (first|refine Dy ?_|rw[hz2]|(refine cJ ?_;intro _)|(refine ui ?_;intro _)|refine wn ?_|(refine bn (kk:=.u64) (vs:=[1]) (by rfl) (by rfl) (by rfl) (by rfl) (by rfl) (by rfl) (by rfl) (by rfl) ?_;rw[UO])|refine ct ?_|refine J6 ?_|refine J8 ?_|refine Z01 ?_|refine Z02 ?_|refine Z03 ?_|refine Z04 ?_|refine Z05 ?_|refine Z06 ?_|refine Z07 ?_|refine Z08 ?_|refine Z09 ?_|refine Z10 ?_|refine Z11 ?_|refine Z12 ?_|refine Z13 ?_|refine Z14 ?_|refine Z24 ?_|refine Z26 ?_|refine Z27 ?_|refine Z29 ?_|refine Z30 ?_|refine Z31 ?_|refine Z32 ?_|refine Z49 ?_|refine Z50 ?_|refine Z51 ?_|refine Z52 ?_|refine Z67 ?_|refine Z77 ?_|refine Z78 ?_|refine Z79 ?_|refine Z81 fun _=>?_|refine Z82 fun _=>?_)
   refine Zec fun _ hw=>aa hw SubW.nil ⟨?_,rfl⟩
   rfl
 ·have hz':=sV hz
  by_cases hh:qpH x z qx=(0:Fq)
  ·have hh':Kf.K2.pH (em x) (em z) (em qx)=Kf.K2.zero:=by rw[← Gz,hh,kH]
   by_cases hr:qpR y z qy=(0:Fq)
   ·refine⟨qtX x y,qtY x y,qtZ y z,?_,?_⟩
    ·have hr':Kf.K2.pR (em y) (em z) (em qy)=Kf.K2.zero:=by rw[← GA,hr,kH]
     rw[Kf.K2.ti p_3 hz' hh' hr',hj,GC,N3,N4]
     exact Kf.K2.j9 p_3 n4 ho
    ·have ht:=qT x y z
     generalize qtX x y=X at ht ⊢
     generalize qtY x y=Y at ht ⊢
     generalize qtZ y z=Z at ht ⊢
     have a1:=bU z z
     have a2:=bU qx (al z z)
     have a3:=i9 (al qx (al z z)) x
     have a4:=bU (al z z) z
     have a5:=bU qy (al (al z z) z)
     have a6:=i9 (al qy (al (al z z) z)) y
     rw[show cw (al qx (al z z)) x=qpH x z qx from rfl]at a3
     rw[show cw (al qy (al (al z z) z)) y=qpR y z qy from rfl]at a6
     generalize al qx (al z z)=c1 at a2 a3
     generalize al qy (al (al z z) z)=c2 at a5 a6
     generalize al (al z z) z=c3 at a4 a5
     generalize al z z=c4 at a1 a2 a4
     generalize qpH x z qx=h at *
     generalize qpR y z qy=r at *
     refine ad Tryz.func69 rfl rfl rfl fun w _=>?_
     have hl0:=fun x=>ae 6 x
     repeat (first|refine Dy ?_|rw[jl hz]|(refine cJ ?_;intro _)|(refine ui ?_;intro _)|refine wn ?_|refine ct ?_|refine y_4 a1 ?_|refine bo ?_|refine Z81 fun _=>?_|refine Z82 fun _=>?_)
     refine R.af [0,1,2,3,4,5,6,7,8] (by rfl) ?_
     repeat (first|refine uv ?_|refine ag a2 ?_|refine ag a3 ?_|refine aA ?_|(refine ij ?_;intro _)|(refine aV ?_;intro _))
     refine R.Zp0 ?_
     repeat (first|refine bo ?_|refine Z81 fun _=>?_|refine Z82 fun _=>?_)
     refine R.af [0,1,2,3,4,5,6,7,8,9,10,11] (by rfl) ?_
     repeat (first|refine uv ?_|refine ag a4 ?_|refine ag a5 ?_|refine ag a6 ?_|refine aA ?_|(refine ij ?_;intro _)|(refine aV ?_;intro _))
     refine R.Zp0 ?_
     have hh2:decide (D 6 h.val=D 6 (0:Fq).val)=true:=by rw[hh];exact mj _
     have hr2:decide (D 6 r.val=D 6 (0:Fq).val)=true:=by rw[hr];exact mj _
     repeat (first|rw[hh2]|rw[hr2]|(refine cJ ?_;intro _)|refine y_4 ht ?_|refine J8 ?_|refine Z01 ?_|refine Z02 ?_|refine Z03 ?_|refine Z04 ?_|refine Z05 ?_|refine Z06 ?_|refine Z07 ?_|refine Z08 ?_|refine Z09 ?_|refine Z10 ?_|refine Z11 ?_|refine Z12 ?_|refine Z13 ?_|refine Z14 ?_|refine Z24 ?_|refine Z26 ?_|refine Z27 ?_|refine Z29 ?_|refine Z30 ?_|refine Z31 ?_|refine Z32 ?_|refine Z49 ?_|refine Z50 ?_|refine Z51 ?_|refine Z52 ?_|refine Z67 ?_|refine Z77 ?_|refine Z78 ?_|refine Z79 ?_|refine Z81 fun _=>?_|refine Z82 fun _=>?_)
     refine Zec fun _ hw=>aa hw SubW.nil ⟨?_,rfl⟩
     rfl
   ·refine⟨(0:Fq),(0:Fq),(0:Fq),?_,?_⟩
    ·rw[hj,hj,kH,Kf.K2.xy,Kf.K2.od p_3 hz' hh' (by rw[← GA];exact sV hr)]
    ·have a1:=bU z z
     have a2:=bU qx (al z z)
     have a3:=i9 (al qx (al z z)) x
     have a4:=bU (al z z) z
     have a5:=bU qy (al (al z z) z)
     have a6:=i9 (al qy (al (al z z) z)) y
     rw[show cw (al qx (al z z)) x=qpH x z qx from rfl]at a3
     rw[show cw (al qy (al (al z z) z)) y=qpR y z qy from rfl]at a6
     generalize al qx (al z z)=c1 at a2 a3
     generalize al qy (al (al z z) z)=c2 at a5 a6
     generalize al (al z z) z=c3 at a4 a5
     generalize al z z=c4 at a1 a2 a4
     generalize qpH x z qx=h at *
     generalize qpR y z qy=r at *
     refine ad Tryz.func69 rfl rfl rfl fun w _=>?_
     have hl0:=fun x=>ae 6 x
     repeat (first|refine Dy ?_|rw[jl hz]|(refine cJ ?_;intro _)|(refine ui ?_;intro _)|refine wn ?_|refine ct ?_|refine y_4 a1 ?_|refine bo ?_|refine Z81 fun _=>?_|refine Z82 fun _=>?_)
     refine R.af [0,1,2,3,4,5,6,7,8] (by rfl) ?_
     repeat (first|refine uv ?_|refine ag a2 ?_|refine ag a3 ?_|refine aA ?_|(refine ij ?_;intro _)|(refine aV ?_;intro _))
     refine R.Zp0 ?_
     repeat (first|refine bo ?_|refine Z81 fun _=>?_|refine Z82 fun _=>?_)
     refine R.af [0,1,2,3,4,5,6,7,8,9,10,11] (by rfl) ?_
     repeat (first|refine uv ?_|refine ag a4 ?_|refine ag a5 ?_|refine ag a6 ?_|refine aA ?_|(refine ij ?_;intro _)|(refine aV ?_;intro _))
     refine R.Zp0 ?_
     have hh2:decide (D 6 h.val=D 6 (0:Fq).val)=true:=by rw[hh];exact mj _
     repeat (first|rw[jl hr]|rw[hh2]|(refine cJ ?_;intro _)|refine J9 ?_|refine J8 ?_|refine Z01 ?_|refine Z02 ?_|refine Z03 ?_|refine Z04 ?_|refine Z05 ?_|refine Z06 ?_|refine Z07 ?_|refine Z08 ?_|refine Z09 ?_|refine Z10 ?_|refine Z11 ?_|refine Z12 ?_|refine Z13 ?_|refine Z14 ?_|refine Z24 ?_|refine Z26 ?_|refine Z27 ?_|refine Z29 ?_|refine Z30 ?_|refine Z31 ?_|refine Z32 ?_|refine Z49 ?_|refine Z50 ?_|refine Z51 ?_|refine Z52 ?_|refine Z67 ?_|refine Z77 ?_|refine Z78 ?_|refine Z79 ?_|refine Z81 fun _=>?_|refine Z82 fun _=>?_)
     refine Zec fun _ hw=>aa hw SubW.nil ⟨?_,rfl⟩
     rfl
  ·refine⟨qpX x (qpH x z qx) (qpR y z qy),qpY x y (qpH x z qx) (qpR y z qy),al z (qpH x z qx),?_,?_⟩
   ·have:=Kf.K2.u6 (x:=em x) (y:=em y) (qy:=em qy) p_3 hz' (by rw[← Gz];exact sV hh)
    rw[hj,N1,Ue,bX,Gz,GA]
    exact this
   have b1:=bU (qpH x z qx) (qpH x z qx)
   have b2:=bU (al (qpH x z qx) (qpH x z qx)) (qpH x z qx)
   have b3:=bU x (al (qpH x z qx) (qpH x z qx))
   have b4:=bU (qpR y z qy) (qpR y z qy)
   have b5:=i9 (al (qpR y z qy) (qpR y z qy)) (al (al (qpH x z qx) (qpH x z qx)) (qpH x z qx))
   have b6:=lu (qpV x (qpH x z qx)) (qpV x (qpH x z qx))
   have b7:=i9 (cw (al (qpR y z qy) (qpR y z qy)) (al (al (qpH x z qx) (qpH x z qx)) (qpH x z qx))) (cU (qpV x (qpH x z qx)) (qpV x (qpH x z qx)))
   have d1:=i9 (qpV x (qpH x z qx)) (qpX x (qpH x z qx) (qpR y z qy))
   have d2:=bU (qpR y z qy) (cw (qpV x (qpH x z qx)) (qpX x (qpH x z qx) (qpR y z qy)))
   have d3:=bU y (al (al (qpH x z qx) (qpH x z qx)) (qpH x z qx))
   have d4:=i9 (al (qpR y z qy) (cw (qpV x (qpH x z qx)) (qpX x (qpH x z qx) (qpR y z qy)))) (al y (al (al (qpH x z qx) (qpH x z qx)) (qpH x z qx)))
   have d5:=bU z (qpH x z qx)
   have a1:=bU z z
   have a2:=bU qx (al z z)
   have a3:=i9 (al qx (al z z)) x
   have a4:=bU (al z z) z
   have a5:=bU qy (al (al z z) z)
   have a6:=i9 (al qy (al (al z z) z)) y
   rw[show cw (al qx (al z z)) x=qpH x z qx from rfl]at a3
   rw[show cw (al qy (al (al z z) z)) y=qpR y z qy from rfl]at a6
   generalize al qx (al z z)=c1 at a2 a3
   generalize al qy (al (al z z) z)=c2 at a5 a6
   generalize al (al z z) z=c3 at a4 a5
   generalize al z z=c4 at a1 a2 a4
   generalize qpH x z qx=h at *
   generalize qpR y z qy=r at *
   refine ad Tryz.func69 rfl rfl rfl fun w _=>?_
   have hl0:=fun x=>ae 6 x
   repeat (first|refine Dy ?_|rw[jl hz]|(refine cJ ?_;intro _)|(refine ui ?_;intro _)|refine wn ?_|refine ct ?_|refine y_4 a1 ?_|refine bo ?_|refine Z81 fun _=>?_|refine Z82 fun _=>?_)
   refine R.af [0,1,2,3,4,5,6,7,8] (by rfl) ?_
   repeat (first|refine uv ?_|refine ag a2 ?_|refine ag a3 ?_|refine aA ?_|(refine ij ?_;intro _)|(refine aV ?_;intro _))
   refine R.Zp0 ?_
   repeat (first|refine bo ?_|refine Z81 fun _=>?_|refine Z82 fun _=>?_)
   refine R.af [0,1,2,3,4,5,6,7,8,9,10,11] (by rfl) ?_
   repeat (first|refine uv ?_|refine ag a4 ?_|refine ag a5 ?_|refine ag a6 ?_|refine aA ?_|(refine ij ?_;intro _)|(refine aV ?_;intro _))
   refine R.Zp0 ?_
   rw[show al x (al h h)=qpV x h from rfl]at b3
   rw[show cw (cw (al r r) (al (al h h) h)) (cU (qpV x h) (qpV x h))=qpX x h r from rfl]at b7
   rw[show cw (al r (cw (qpV x h) (qpX x h r))) (al y (al (al h h) h))=qpY x y h r from rfl]at d4
   generalize qpY x y h r=Y at *
   generalize al y (al (al h h) h)=e1 at *
   generalize al r (cw (qpV x h) (qpX x h r))=e2 at *
   generalize cw (qpV x h) (qpX x h r)=e3 at *
   generalize qpX x h r=X at *
   generalize cw (al r r) (al (al h h) h)=e4 at *
   generalize cU (qpV x h) (qpV x h)=e5 at *
   generalize qpV x h=e6 at *
   generalize al (al h h) h=e7 at *
   generalize al h h=e8 at *
   generalize al r r=e9 at *
   generalize al z h=Z at *
   repeat (first|rw[jl hh]|refine bo ?_|refine Z81 fun _=>?_|refine Z82 fun _=>?_)
   repeat (first|(refine cJ ?_;intro _)|refine y_4 b1 ?_|refine bo ?_|refine Z81 fun _=>?_|refine Z82 fun _=>?_)
   refine R.af [0,1,2,3,4,5,6,7,8,9,10] (by rfl) ?_
   repeat (first|refine KK ?_|refine aL ?_|refine si ?_|refine sj ?_|refine sn ?_|refine ag b2 ?_|refine ag b3 ?_|refine aA ?_|(refine R.po (by rfl) (by rfl) (by intro _ _ _;refine aq (v:=LV .u64 (List.replicate 6 0)) (by rfl) (by rfl) fun _=>?_;exact R.eO) (by intro _ _ _;refine aq (v:=LV .u64 (List.replicate 6 0)) (by rfl) (by rfl) fun _=>?_;exact R.eO) (fun _=>?_) (fun _=>?_))|(refine ij ?_;intro _)|(refine aV ?_;intro _))
   all_goals
    repeat (first|refine KK ?_|refine aL ?_|refine si ?_|refine sj ?_|refine sn ?_|refine ag b2 ?_|refine ag b3 ?_|refine aA ?_|(refine R.po (by rfl) (by rfl) (by intro _ _ _;refine aq (v:=LV .u64 (List.replicate 6 0)) (by rfl) (by rfl) fun _=>?_;exact R.eO) (by intro _ _ _;refine aq (v:=LV .u64 (List.replicate 6 0)) (by rfl) (by rfl) fun _=>?_;exact R.eO) (fun _=>?_) (fun _=>?_))|(refine ij ?_;intro _)|(refine aV ?_;intro _))
   all_goals refine R.Zp0 ?_
   all_goals
    repeat (first|refine bo ?_|refine Z81 fun _=>?_|refine Z82 fun _=>?_)
    refine R.af [0,1,2,3,4,5,6,7,8,9,10] (by rfl) ?_
    repeat (first|refine Pw ?_|refine aL ?_|refine ag b4 ?_|refine ag b5 ?_|refine ag b6 ?_|refine ag b7 ?_|refine aA ?_|(refine ij ?_;intro _)|(refine aV ?_;intro _))
    refine R.Zp0 ?_
    repeat (first|refine bo ?_|refine Z81 fun _=>?_|refine Z82 fun _=>?_)
    refine R.af [0,1,2,3,4,5,6,7,8,9,10,11,12,13,14,15,16] (by rfl) ?_
    repeat (first|(refine R.Zpf (by rfl) (by intro _ _ _;(first|refine ct ?_|refine J6 ?_|refine Z01 ?_|refine Z02 ?_|refine Z49 ?_|refine Z50 ?_|refine Z77 ?_|refine Z78 ?_|refine Z79 ?_);exact Zq) ?_)|refine aL ?_|refine si ?_|refine sj ?_|refine sn ?_|refine ag d1 ?_|refine ag d2 ?_|refine ag d3 ?_|refine ag d4 ?_|refine ag d5 ?_|refine aA ?_|refine J7 ?_|(refine aV ?_;intro _))
    refine R.Zp0 ?_
    repeat (first|refine bo ?_|refine Z81 fun _=>?_|refine Z82 fun _=>?_)
    refine Zec fun _ hw=>aa hw SubW.nil ⟨?_,rfl⟩
    rfl
theorem Bm{x y z:Fq}(h:z≠0):((decide (D 6 x.val=D 6 (0:Fq).val)&&decide (D 6 y.val=D 6 (0:Fq).val))&&decide (D 6 z.val=D 6 (0:Fq).val))=false:=by
 rw[jl h,Bool.and_false]
theorem OT{a b:Prop}(k:b)(h:Rm b→a:=by intro k;refine CP (m:=6) (hr:=hc.symm) (by rfl) (by rfl) (by rfl) (by kernel_rfl) (by rfl) (by rfl) (by rfl) (by rfl) (by rfl) (by rfl) (by rfl) (by rfl) (by rfl) (by rfl) (by rfl) (by rfl) (by rfl) (by kernel_rfl) (ae 6 _) (ae 6 _) (ae 6 _) (ae 6 _) (ae 6 _) (ae 6 _) (by rfl) ?_;exact k.h):a:=h ⟨k⟩
theorem zf{a b:Prop}(k:b)(h:Rm b→a:=by intro k;refine bJ (by rfl) fd (by rfl) (by rfl) (ab.all (jk _ _ _)) (by rfl) ?_;exact k.h):a:=h ⟨k⟩
theorem PD{a b:Prop}(k:b)(h:Rm b→a:=by intro k;(first|refine wn ?_|refine J9 ?_|refine zf ?_|refine ct ?_|refine Df ?_|refine Dg ?_|refine Dh ?_|refine J4 ?_|refine ii ?_|refine Z01 ?_|refine Z03 ?_|refine Z04 ?_|refine Z05 ?_|refine Z06 ?_|refine Z07 ?_|refine Z08 ?_|refine Z09 ?_|refine Z10 ?_|refine Z11 ?_|refine Z12 ?_|refine Z13 ?_|refine Z14 ?_|refine Z24 ?_|refine Z26 ?_|refine Z27 ?_|refine Z29 ?_|refine Z30 ?_|refine Z31 ?_|refine Z32 ?_|refine Z49 ?_|refine Z50 ?_|refine Z51 ?_|refine Z52 ?_|refine Z67 ?_|refine Z77 ?_|refine Z78 ?_|refine Z79 ?_);exact k.h):a:=h ⟨k⟩
set_option maxHeartbeats 8000000 in
theorem xq(x y z:Fq):Spec Tryz.prog 70 [J18 x y z] ai [] (IsV (HV (hj x y z))):=by
 refine ad Tryz.func70 rfl rfl rfl fun w _=>?_
 have hl0:=fun x=>ae 6 x
 by_cases hz:z=(0:Fq)
 ·have e0:hj x y z=none:=by rw[hj,hz,kH,Kf.K2.xy]
  rw[e0,jj]
  have hz2:decide (D 6 z.val=D 6 (0:Fq).val)=true:=by rw[hz];exact mj _
  obtain⟨c,hc⟩:∃c,c=((decide (D 6 x.val=D 6 (0:Fq).val)&&decide (D 6 y.val=D 6 (0:Fq).val))&&decide (D 6 z.val=D 6 (0:Fq).val)):=⟨_,rfl⟩
  cases c with
  | true=>
   repeat (first|refine OT ?_|rw[hz2]|(refine dX ?_;intro _)|refine PD ?_|refine Z81 fun _=>?_|refine Z82 fun _=>?_)
   refine aQ (m:=12) (by rfl) (by rfl) fd (by rfl) (by rfl) (by first|with_reducible assumption|simp) fun _ hw=>aa hw SubW.nil ⟨?_,rfl⟩
   rfl
  | false=>
   repeat (first|refine OT ?_|rw[hz2]|(refine dX ?_;intro _)|refine PD ?_|refine Z81 fun _=>?_|refine Z82 fun _=>?_)
   refine aQ (m:=12) (by rfl) (by rfl) fd (by rfl) (by rfl) (by first|with_reducible assumption|simp) fun _ hw=>aa hw SubW.nil ⟨?_,rfl⟩
   rfl
 ·rw[hj,Kf.K2.pq (sV hz),Kf.K2.jx,Kf.K2.jy,QM hz,← bX,← bX,← bX,← bX,gr]
  have a1:=U7 z
  have a2:=bU (dF z) (dF z)
  have a3:=bU x (al (dF z) (dF z))
  have a4:=bU (al (dF z) (dF z)) (dF z)
  have a5:=bU y (al (al (dF z) (dF z)) (dF z))
  generalize al y (al (al (dF z) (dF z)) (dF z))=c1 at *
  generalize al (al (dF z) (dF z)) (dF z)=c2 at *
  generalize al x (al (dF z) (dF z))=c3 at *
  generalize al (dF z) (dF z)=c4 at *
  generalize dF z=c5 at *
  repeat (first|refine CP (m:=6) (hr:=Bm hz) (by rfl) (by rfl) (by rfl) (by kernel_rfl) (by rfl) (by rfl) (by rfl) (by rfl) (by rfl) (by rfl) (by rfl) (by rfl) (by rfl) (by rfl) (by rfl) (by rfl) (by rfl) (by kernel_rfl) (ae 6 _) (ae 6 _) (ae 6 _) (ae 6 _) (ae 6 _) (ae 6 _) (by rfl) ?_|rw[jl hz]|(refine cJ ?_;intro _)|(refine dX ?_;intro _)|refine wn ?_|refine J9 ?_|refine zf ?_|refine ct ?_|refine Df ?_|refine Dg ?_|refine Dh ?_|refine y_4 a1 ?_|refine y_4 a2 ?_|refine pb ?_|refine Z81 fun _=>?_|refine Z82 fun _=>?_)
  refine R.af [0,1,2,3,4,5,6,7,8,9,10,11] (by rfl) ?_
  repeat (first|(refine R.Zpf (by rfl) (by intro _ _ _;(first|refine J3 ?_|refine ct ?_|refine Z01 ?_|refine Z49 ?_|refine Z50 ?_|refine Z77 ?_|refine Z78 ?_|refine Z79 ?_);exact Zq) ?_)|refine aL ?_|refine si ?_|refine sj ?_|refine sn ?_|refine ag a3 ?_|refine ag a4 ?_|refine ag a5 ?_|refine aA ?_|refine J5 ?_|(refine aV ?_;intro _))
  refine R.Zp0 ?_
  repeat (first|refine pb ?_|refine Z81 fun _=>?_|refine Z82 fun _=>?_)
  refine aQ (m:=12) (by rfl) (by rfl) fd (by rfl) (by rfl) (by first|with_reducible assumption|simp) fun _ hw=>aa hw SubW.nil ⟨?_,rfl⟩
  rfl
set_option maxHeartbeats 8000000 in
theorem B0{P:Kf.K2.Pt p}(h:Kf.K2.Onc c4 P)(hR:Kf.K2.Rl P)(s:Value)(xs:List Nat)(hx:Lt 18446744073709551616 xs)(hl:xs.length<65536):
  Spec Tryz.prog 30 [s,HV P] (fun w=>Rd w s (xs.map (N .u64))) [] (IsV (.tuple [HV (Kf.K2.tim P (V xs)),N .i64 0].toArray)):=by
 refine ad Tryz.func30 rfl rfl rfl fun w hr=>?_
 have hr:=RdC.mk0 hr
 have hl0:=fun x=>ae 6 x
 have h1:=oc hR
 have h2:=mK h hR
 rcases iQ hR with rfl | ⟨qx,qy,rfl⟩
 ·rw[Kf.K2.f7]
  rw[jj]at h1 h2 ⊢
  repeat (first|refine jh ?_|refine fm ?_|refine ii ?_|(refine dX ?_;intro _)|refine ct ?_|refine y_4 h1 ?_|refine y_4 h2 ?_|refine De ?_|refine Z81 fun _=>?_|refine Z82 fun _=>?_)
  repeat (first|with_reducible refine dg ?_|refine lC ?_|refine Z81 fun _=>?_|refine Z82 fun _=>?_)
  refine bH (m:=12) (by rfl) (by rfl) (by rfl) fd (by rfl) (by rfl) (by first|with_reducible assumption|simp) fun _ hw=>aa hw SubW.nil ⟨?_,rfl⟩
  rfl
 ·have hm:HV (some (em qx,em qy))=HE qx qy false:=gr _ _
  rw[hm]at h1 h2 ⊢
  have hz:V xs/2^(64*xs.length)=0:=Nat.div_eq_of_lt (by rw[Nat.pow_mul,← W_2];exact uz hx)
  have hj0:hj 0 0 0=none:=by rw[hj,kH,Kf.K2.xy]
  repeat (first|refine jh ?_|refine fm ?_|refine ii ?_|(refine dX ?_;intro _)|refine ct ?_|refine y_4 h1 ?_|refine y_4 h2 ?_|(refine ui ?_;intro _)|refine De ?_|refine Z81 fun _=>?_|refine Z82 fun _=>?_)
  rename_i p3 p4 p6
  refine ay (ι:=Nat×Fq×Fq×Fq) (fun q=>q.1≤64*xs.length∧hj q.2.1 q.2.2.1 q.2.2.2=Kf.K2.tim (some (em qx,em qy)) (V xs/2^q.1)) (fun q=>[(0,s),(3,pt p3 0),(4,pt p4 0),(6,pt p6 0),(7,.int .i64 ((q.1:Int)-1))])
   (fun q=>[.blk p6 (J18 q.2.1 q.2.2.1 q.2.2.2) 107,.blk p3 (HE qx qy false) 58,.blk p4 (GL (List.replicate 12 0) false) 58]) (fun q=>q.1) (64*xs.length,0,0,0) ⟨Nat.le_refl _,by simp only;rw[hz,hj0];rfl⟩ sbq (by simp only[J18];rw[← KT];exact sw) ?_
  rintro⟨j,X,Y,Z⟩ ⟨hj,hjp⟩
  simp only at hj hjp ⊢
  repeat (first|refine lC ?_|refine Z81 fun _=>?_|refine Z82 fun _=>?_)
  refine an (by rfl) (fun hc=>?_) (fun hc=>?_)
  ·have h0:(0:Int)≤(j:Int)-1:=hc
   obtain⟨i,rfl⟩:∃i,j=i+1:=⟨j-1,by omega⟩
   rw[show((i+1:Nat):Int)-1=Int.ofNat i by simp]
   have hst:=mw (V xs) i
   have hbt:=mv hx i
   generalize V xs/2^(i+1)=m at hst hjp
   have ht:=qT X Y Z
   have hoj:Kf.K2.Onc c4 (L.hj X Y Z):=by rw[hjp];exact Kf.K2.cW p_3 h m
   have hjt:L.hj (qtX X Y) (qtY X Y) (qtZ Y Z)=Kf.K2.pa (L.hj X Y Z) (L.hj X Y Z):=by
    rw[L.hj,GC,N3,N4]
    exact Kf.K2.j9 p_3 n4 hoj
   rw[hjp,← Kf.K2.fj p_3 n4 h]at hjt
   generalize qtX X Y=X2 at ht hjt
   generalize qtY X Y=Y2 at ht hjt
   generalize qtZ Y Z=Z2 at ht hjt
   repeat (first|refine zf ?_|refine y_4 ht ?_|refine aX (m:=18) (by rfl) (by rfl) fd (by rfl) (jk _ _ _) (jk _ _ _) ?_|refine ib (by rfl) (by rfl) (show i%64≤64 by omega) (by rfl) ?_|rw[hbt]|refine lC ?_|refine Z81 fun _=>?_|refine Z82 fun _=>?_)
   refine an (by rfl) (fun hb=>?_) (fun hb=>?_)
   ·have hx1:V xs/2^i=m+m:=by omega
    repeat (first|refine lC ?_|refine Z81 fun _=>?_|refine Z82 fun _=>?_)
    refine ao (i,X2,Y2,Z2) ⟨by simp only;omega,by simp only;rw[hjt,hx1]⟩ (by simp only;omega) ?_ sw
    rw[show((i:Int)-1)=Int.ofNat i-Int.ofNat 1 from rfl]
    exact sbq
   ·have hx1:V xs/2^i=m+m+1:=by omega
    have ho2:Kf.K2.Onc c4 (L.hj X2 Y2 Z2):=by rw[hjt];exact Kf.K2.cW p_3 h _
    obtain⟨X3,Y3,Z3,hj3,hs3⟩:=HC X2 Y2 Z2 qx qy ho2
    rw[hjt,show Kf.K2.pa (Kf.K2.tim (some (em qx,em qy)) (m+m)) (some (em qx,em qy))=Kf.K2.tim (some (em qx,em qy)) (m+m+1)from rfl]at hj3
    repeat (first|refine zf ?_|refine jh ?_|refine y_4 hs3 ?_|refine aX (m:=18) (by rfl) (by rfl) fd (by rfl) (jk _ _ _) (jk _ _ _) ?_|refine Z01 ?_|refine Z02 ?_|refine Z03 ?_|refine Z04 ?_|refine Z05 ?_|refine Z06 ?_|refine Z07 ?_|refine Z08 ?_|refine Z09 ?_|refine Z10 ?_|refine Z11 ?_|refine Z12 ?_|refine Z13 ?_|refine Z14 ?_|refine Z16 ?_|refine Z17 ?_|refine Z18 ?_|refine Z20 ?_|refine Z21 ?_|refine Z22 ?_|refine Z23 ?_|refine Z24 ?_|refine Z26 ?_|refine Z27 ?_|refine Z29 ?_|refine Z30 ?_|refine Z31 ?_|refine Z32 ?_|refine Z36 ?_|refine Z37 ?_|refine Z38 ?_|refine Z40 ?_|refine Z42 ?_|refine Z54 ?_|refine Z67 ?_|refine Z71 ?_|refine Z81 fun _=>?_|refine Z82 fun _=>?_)
    refine ao (i,X3,Y3,Z3) ⟨by simp only;omega,by simp only;rw[hj3,hx1]⟩ (by simp only;omega) ?_ sw
    rw[show((i:Int)-1)=Int.ofNat i-Int.ofNat 1 from rfl]
    exact sbq
  ·have hp0:¬(0:Int)≤(j:Int)-1:=hc
   have hj0:j=0:=by omega
   subst hj0
   rw[Nat.pow_zero,Nat.div_one]at hjp
   have hpt:=xq X Y Z
   rw[hjp]at hpt
   obtain⟨x1,y1,i1,hq⟩:∃x1 y1 i1,HV (Kf.K2.tim (some (em qx,em qy)) (V xs))=HE x1 y1 i1:=⟨_,_,_,rfl⟩
   rw[hq]at hpt ⊢
   repeat (first|refine zf ?_|refine y_4 hpt ?_|refine ii ?_|refine Z01 ?_|refine Z02 ?_|refine Z03 ?_|refine Z04 ?_|refine Z05 ?_|refine Z06 ?_|refine Z07 ?_|refine Z08 ?_|refine Z09 ?_|refine Z10 ?_|refine Z11 ?_|refine Z12 ?_|refine Z13 ?_|refine Z14 ?_|refine Z16 ?_|refine Z17 ?_|refine Z18 ?_|refine Z20 ?_|refine Z21 ?_|refine Z22 ?_|refine Z23 ?_|refine Z24 ?_|refine Z26 ?_|refine Z27 ?_|refine Z29 ?_|refine Z30 ?_|refine Z31 ?_|refine Z32 ?_|refine Z36 ?_|refine Z37 ?_|refine Z38 ?_|refine Z40 ?_|refine Z42 ?_|refine Z54 ?_|refine Z67 ?_|refine Z71 ?_|refine Z81 fun _=>?_|refine Z82 fun _=>?_)
   repeat (first|with_reducible refine dg ?_|refine lC ?_|refine Z81 fun _=>?_|refine Z82 fun _=>?_)
   refine bH (m:=12) (by rfl) (by rfl) (by rfl) fd (by rfl) (by rfl) (by first|with_reducible assumption|simp) fun _ hw=>aa hw SubW.nil ⟨?_,rfl⟩
   rfl
end
section
attribute [local irreducible] Code.wp wpList Af bodyPost L.Go ab
open Num
attribute [local simp] ae
theorem LJ{x y:F2}(h:Kf.K2.mul y y=cm x):u5 x y=(phx x,phy x y,false):=
 HK rfl rfl rfl rfl (vd (ka h)) (Ap (ka h))
theorem WK(x y:F2):Spec Tryz.prog 42 [LV .u64 (E2 x),LV .u64 (E2 y)] ai [] (IsV (GE (u5 x y).1 (u5 x y).2.1 (u5 x y).2.2)):=by
 have:=HM (ap x.re) (ap x.im) (ap y.re) (ap y.im);rwa [bq,bq]at this
theorem WL{x y:F2}(h:Kf.K2.mul y y=cm x):Spec Tryz.prog 42 [LV .u64 (E2 x),LV .u64 (E2 y)] ai [] (IsV (GE (phx x) (phy x y) false)):=by
 have:=WK x y;rwa [LJ h]at this
theorem xg(P:Kf.K2.Pt p):Spec Tryz.prog 62 [GV P] ai [] (IsV (GV P)):=by
 have:=kK (ap (gx P).re) (ap (gx P).im) (ap (gy P).re) (ap (gy P).im) (gi P);rwa [bq,bq,oo]at this
theorem Hl(P Q:Kf.K2.Pt p):Spec Tryz.prog 26 [GV P,GV Q] ai [] (IsV (GV (Kf.K2.pa P Q))):=by
 have:=D9 (ap (gx P).re) (ap (gx P).im) (ap (gy P).re) (ap (gy P).im) (gi P) (ap (gx Q).re) (ap (gx Q).im) (ap (gy Q).re) (ap (gy Q).im) (gi Q)
 rwa [bq,bq,bq,bq,oo,oo]at this
def hC:List Nat:=[16717924791090763089,6451771550755190452,16813287336095381155,3368952460600638490,7891079509683868336,3646841576362204053,11062809923385098209,9863631852917151592,6362576984766887208,848540440590185907]
theorem Uu:Lt 18446744073709551616 hC:=by unfold Lt hC;decide
theorem Rc:hC.length=10:=rfl
theorem OU{a b:Prop}(k:b)(h:Rm b→a:=by intro k;(first|refine Z02 ?_|refine Z03 ?_|refine Z04 ?_|refine Z05 ?_|refine Z06 ?_|refine Z07 ?_|refine Z08 ?_|refine Z09 ?_|refine Z10 ?_|refine Z11 ?_|refine Z12 ?_|refine Z13 ?_|refine Z14 ?_|refine Z19 ?_|refine Z24 ?_|refine Z26 ?_|refine Z27 ?_|refine Z29 ?_|refine Z30 ?_|refine Z31 ?_|refine Z32 ?_|refine Z62 ?_|refine Z63 ?_|refine Z67 ?_);exact k.h):a:=h ⟨k⟩
set_option maxHeartbeats 8000000 in
theorem Ga{P:Kf.K2.Pt p}(h:Kf.K2.Onc b2c P){a b e f:Nat}(ha:a<W^6)(hb:b<W^6)(he:e<W^6)(hf:f<W^6)(i:Bool)(hP:P=ptv (k2 a b) (k2 e f) i):
  Spec Tryz.prog 44 [G4 a b e f i] ai [] (IsV (.tuple [GV (Kf.K2.tim P (V hC)),N .i64 0].toArray)):=by
 refine ad Tryz.func44 rfl rfl rfl fun w hr=>?_
 have hl0:=fun x=>ae 6 x
 have hle:=fun x:F2=>ak x
 have hm:=fun s=>uY h ha hb he hf i hP s hC Uu (by decide)
 obtain⟨x1,y1,i1,hq⟩:∃x1 y1 i1,GV (Kf.K2.tim P (V hC))=GE x1 y1 i1:=⟨_,_,_,rfl⟩
 rw[hq]at hm ⊢
 repeat (first|(refine co ?_;intro _)|refine aq (v:=LV .u64 (List.replicate 10 0)) (by rfl) (by rfl) fun _=>?_|(refine oy (m:=10) (kk:=.u64) (by rfl) (by rfl) (by rfl) (by rfl) (by rfl) (by rfl) (by rfl) (by rfl) ?_;rw[show[16717924791090763089,6451771550755190452,16813287336095381155,3368952460600638490,7891079509683868336,3646841576362204053,11062809923385098209,9863631852917151592,6362576984766887208,848540440590185907]++List.replicate (10-[16717924791090763089,6451771550755190452,16813287336095381155,3368952460600638490,7891079509683868336,3646841576362204053,11062809923385098209,9863631852917151592,6362576984766887208,848540440590185907].length) 0=hC from rfl])|refine OU ?_|refine Z81 fun _=>?_|refine Z82 fun _=>?_)
 refine R.af [0,1,2,3,4,5,6] (by rfl) ?_
 repeat (first|(refine R.Zpf (by rfl) (by intro _ _ _;(first|refine Z02 ?_|refine Z19 ?_|refine Z62 ?_|refine Z63 ?_);exact Zq) ?_)|refine ur ?_|refine za ?_|(refine R.Zpp (by rfl) (by intro _ _ _;refine ah (by rfl) (by rfl) (by rfl) (hm _) (RdW.arrAll (m:=10) fd Rc) (by rfl) ?_;exact Zq) ?_)|refine gb ?_|(refine aV ?_;intro _))
 refine R.Zp0 ?_
 repeat (first|refine OU ?_|refine Z81 fun _=>?_|refine Z82 fun _=>?_)
 refine bH (m:=24) (by rfl) (by rfl) (by rfl) fd (by rfl) (by rfl) (by first|with_reducible assumption|simp) fun _ hw=>aa hw SubW.nil ⟨?_,rfl⟩
 rfl
theorem Qy{P:Kf.K2.Pt p}(h:Kf.K2.Onc b2c P):Spec Tryz.prog 44 [GV P] ai [] (IsV (.tuple [GV (Kf.K2.tim P (V hC)),N .i64 0].toArray)):=
 Ga h (ap (gx P).re) (ap (gx P).im) (ap (gy P).re) (ap (gy P).im) (gi P) (by rw[bq,bq,oo])
def gj(u:F2):Kf.K2.Pt p:=some (phx (i6 u).1,phy (i6 u).1 (i6 u).2)
theorem fS(u:F2):Kf.K2.Onc b2c (gj u):=UU (Cc u)
theorem tN{a b:Nat}(ha:a<W^6)(hb:b<W^6):Spec Tryz.prog 41 [LV .u64 (D 6 a++D 6 b)] ai [] (IsV (GV (gj (k2 a b)))):=by
 refine ad Tryz.func41 rfl rfl rfl fun w hr=>?_
 have hl0:=fun x=>ae 6 x
 have hle:=fun x:F2=>ak x
 have hm:=HT ha hb
 have hi:=WL (Cc (k2 a b))
 rw[gj,ji]
 generalize i6 (k2 a b)=r at hm hi ⊢
 obtain⟨x,y⟩:=r
 simp only at hm hi ⊢
 generalize phx x=c at hi ⊢
 generalize phy x y=d at hi ⊢
 repeat (first|(refine co ?_;intro _)|refine y_4 hm ?_|refine y_4 hi ?_|refine dt ?_|refine Z03 ?_|refine Z04 ?_|refine Z05 ?_|refine Z06 ?_|refine Z07 ?_|refine Z08 ?_|refine Z09 ?_|refine Z10 ?_|refine Z11 ?_|refine Z12 ?_|refine Z13 ?_|refine Z14 ?_|refine Z19 ?_|refine Z24 ?_|refine Z26 ?_|refine Z27 ?_|refine Z29 ?_|refine Z30 ?_|refine Z31 ?_|refine Z32 ?_|refine Z67 ?_|refine Z81 fun _=>?_|refine Z82 fun _=>?_)
 refine aQ (m:=24) (by rfl) (by rfl) fd (by rfl) (by rfl) (by first|with_reducible assumption|simp) fun _ hw=>aa hw SubW.nil ⟨?_,rfl⟩
 rfl
def gY(u v:F2):Kf.K2.Pt p:=Kf.K2.tim (Kf.K2.pa (gj u) (gj v)) (V hC)
theorem MM(u v:F2):Kf.K2.Onc b2c (gY u v):=Kf.K2.cW p_3 (Kf.K2.di p_3 (fS u) (fS v)) _
theorem Ka{a b:Prop}(k:b)(h:Rm b→a:=by intro k;refine R.Zpb (by rfl) (by intro _ _ _;refine aq (E:=36) (v:=GL (List.replicate 24 0) false) (by kernel_rfl) (by rfl) fun _=>?_;exact R.eO) ?_;exact k.h):a:=h ⟨k⟩
set_option maxHeartbeats 8000000 in
theorem EV{a b e f:Nat}(ha:a<W^6)(hb:b<W^6)(he:e<W^6)(hf:f<W^6):Spec Tryz.prog 22 [LV .u64 (D 6 a++D 6 b),LV .u64 (D 6 e++D 6 f)] ai [] (IsV (GV (gY (k2 a b) (k2 e f)))):=by
 refine ad Tryz.func22 rfl rfl rfl fun w hr=>?_
 have hl0:=fun x=>ae 6 x
 have hle:=fun x:F2=>ak x
 have h1:=tN ha hb
 have h2:=tN he hf
 have h3:=Hl (gj (k2 a b)) (gj (k2 e f))
 have h4:=Qy (Kf.K2.di p_3 (fS (k2 a b)) (fS (k2 e f)))
 rw[gY]
 obtain⟨x1,y1,i1,hq1⟩:∃x1 y1 i1,GV (gj (k2 a b))=GE x1 y1 i1:=⟨_,_,_,rfl⟩
 obtain⟨x2,y2,i2,hq2⟩:∃x1 y1 i1,GV (gj (k2 e f))=GE x1 y1 i1:=⟨_,_,_,rfl⟩
 obtain⟨x3,y3,i3,hq3⟩:∃x1 y1 i1,GV (Kf.K2.pa (gj (k2 a b)) (gj (k2 e f)))=GE x1 y1 i1:=⟨_,_,_,rfl⟩
 obtain⟨x4,y4,i4,hq4⟩:∃x1 y1 i1,GV (Kf.K2.tim (Kf.K2.pa (gj (k2 a b)) (gj (k2 e f))) (V hC))=GE x1 y1 i1:=⟨_,_,_,rfl⟩
 rw[hq1]at h1 h3
 rw[hq2]at h2 h3
 rw[hq3]at h3 h4
 rw[hq4]at h4 ⊢
 repeat (first|(refine co ?_;intro _)|refine Z01 ?_|refine Z02 ?_|refine Z03 ?_|refine Z04 ?_|refine Z05 ?_|refine Z06 ?_|refine Z07 ?_|refine Z08 ?_|refine Z09 ?_|refine Z10 ?_|refine Z11 ?_|refine Z12 ?_|refine Z13 ?_|refine Z14 ?_|refine Z19 ?_|refine Z24 ?_|refine Z26 ?_|refine Z27 ?_|refine Z29 ?_|refine Z30 ?_|refine Z31 ?_|refine Z32 ?_|refine Z67 ?_|refine Z81 fun _=>?_|refine Z82 fun _=>?_)
 refine R.af [0,1,2,3,4,5,6,7,8,9,10,11,12,13] (by rfl) ?_
 repeat (first|(refine R.Zpf (by rfl) (by intro _ _ _;(first|refine Z01 ?_|refine Z02 ?_|refine Z19 ?_);exact Zq) ?_)|refine aL ?_|refine cz ?_|refine ag h1 ?_|refine ag h2 ?_|refine ag h3 ?_|refine ag h4 ?_|refine gb ?_|(refine Ka ?_;intro _)|(refine aV ?_;intro _))
 refine R.Zp0 ?_
 repeat (first|refine du ?_|refine dt ?_|refine Z01 ?_|refine Z02 ?_|refine Z03 ?_|refine Z04 ?_|refine Z05 ?_|refine Z06 ?_|refine Z07 ?_|refine Z08 ?_|refine Z09 ?_|refine Z10 ?_|refine Z11 ?_|refine Z12 ?_|refine Z13 ?_|refine Z14 ?_|refine Z19 ?_|refine Z24 ?_|refine Z26 ?_|refine Z27 ?_|refine Z29 ?_|refine Z30 ?_|refine Z31 ?_|refine Z32 ?_|refine Z67 ?_|refine Z81 fun _=>?_|refine Z82 fun _=>?_)
 refine aQ (m:=24) (by rfl) (by rfl) fd (by rfl) (by rfl) (by first|with_reducible assumption|simp) fun _ hw=>aa hw SubW.nil ⟨?_,rfl⟩
 rfl
end
end Go.Proofs.YtndhfbecpghinaaGreat.L
namespace Go.Proofs.YtndhfbecpghinaaGreat.L.Kf
open Pr
namespace K2
abbrev PN:=Nat×Nat
def bZ(N:Nat)(x y:PN):PN:=((x.1+y.1)%N,(x.2+y.2)%N)
def dv(N:Nat)(x y:PN):PN:=((x.1+(N-y.1%N))%N,(x.2+(N-y.2%N))%N)
def aO(N:Nat)(x y:PN):PN:=((x.1*y.1+x.2*(N-y.2%N))%N,(x.1*y.2+x.2*y.1)%N)
section
variable {n:Nat} [NeZero n]
def red(n:Nat)[NeZero n](x:PN):K2 n:=⟨κ n x.1,κ n x.2⟩
variable {N:Nat} (hN:n∣N) (h0:0<N)
include hN
theorem jJ(a:Nat):κ n (a%N)=κ n a:=by
 rw[sB];exact Nat.mod_mod_of_dvd a hN
include h0
theorem pZ(a:Nat):κ n (N-a%N) = -κ n a:=by
 have h1:κ n N=0:=dvd_zero.2 hN
 rw[Bo (Nat.le_of_lt (Nat.mod_lt a h0)),h1,jJ hN]
 grind
omit h0 in
theorem kQ(x y:PN):red n (bZ N x y)=add (red n x) (red n y):=by
 refine ext' ?_ ?_
 ·show κ n ((x.1+y.1)%N)=κ n x.1+κ n y.1
  rw[jJ hN,fL]
 ·show κ n ((x.2+y.2)%N)=κ n x.2+κ n y.2
  rw[jJ hN,fL]
theorem d8(x y:PN):red n (dv N x y)=sub (red n x) (red n y):=by
 refine ext' ?_ ?_
 ·show κ n ((x.1+(N-y.1%N))%N)=κ n x.1-κ n y.1
  rw[jJ hN,fL,pZ hN h0];grind
 ·show κ n ((x.2+(N-y.2%N))%N)=κ n x.2-κ n y.2
  rw[jJ hN,fL,pZ hN h0];grind
theorem cZ(x y:PN):red n (aO N x y)=mul (red n x) (red n y):=by
 refine ext' ?_ ?_
 ·show κ n ((x.1*y.1+x.2*(N-y.2%N))%N)=κ n x.1*κ n y.1-κ n x.2*κ n y.2
  rw[jJ hN,fL,go,go,pZ hN h0];grind
 ·show κ n ((x.1*y.2+x.2*y.1)%N)=κ n x.1*κ n y.2+κ n x.2*κ n y.1
  rw[jJ hN,fL,go,go]
end
def ltP(N:Nat)(x:PN):Prop:=x.1<N∧x.2<N
theorem Aq{N:Nat}(h0:0<N)(x y:PN):ltP N (bZ N x y):=⟨Nat.mod_lt _ h0,Nat.mod_lt _ h0⟩
theorem jt{N:Nat}(h0:0<N)(x y:PN):ltP N (dv N x y):=⟨Nat.mod_lt _ h0,Nat.mod_lt _ h0⟩
theorem Rv{N:Nat}(h0:0<N)(x y:PN):ltP N (aO N x y):=⟨Nat.mod_lt _ h0,Nat.mod_lt _ h0⟩
def isz(x:PN):Bool:=Nat.beq (x.1+x.2) 0
theorem dY{n:Nat}[NeZero n]{x:PN}(h:ltP n x):isz x=true↔red n x=zero:=by
 constructor
 ·intro e
  have:=Nat.eq_of_beq_eq_true e
  exact ext' (by show κ n x.1=0;rw[show x.1=0 by omega,κ_0]) (by show κ n x.2=0;rw[show x.2=0 by omega,κ_0])
 ·intro e
  have e1:κ n x.1=0:=congrArg re e
  have e2:κ n x.2=0:=congrArg im e
  rw[dvd_zero]at e1 e2
  have a1:=Nat.eq_zero_of_dvd_of_lt e1 h.1
  have a2:=Nat.eq_zero_of_dvd_of_lt e2 h.2
  show Nat.beq (x.1+x.2) 0=true
  rw[a1,a2];rfl
structure St where
 g:Bool
 x:PN
 y:PN
 z:PN
def vA:PN:=(1,0)
def dR:PN:=(0,0)
def mC(N:Nat)(S:St):St:=
 let yy:=aO N S.y S.y
 let d0:=aO N S.x yy
 let d1:=bZ N d0 d0
 let d:=bZ N d1 d1
 let xx:=aO N S.x S.x
 let e:=bZ N (bZ N xx xx) xx
 let X:=dv N (aO N e e) (bZ N d d)
 let c0:=aO N yy yy
 let c1:=bZ N c0 c0
 let c2:=bZ N c1 c1
 let yz:=aO N S.y S.z
 ⟨S.g,X,dv N (aO N e (dv N d X)) (bZ N c2 c2),bZ N yz yz⟩
def plH(N:Nat)(S:St)(qx:PN):PN:=dv N (aO N qx (aO N S.z S.z)) S.x
def plR(N:Nat)(S:St)(qy:PN):PN:=dv N (aO N qy (aO N (aO N S.z S.z) S.z)) S.y
def plG(N:Nat)(S:St)(h r:PN):St:=
 let hh:=aO N h h
 let hhh:=aO N hh h
 let v:=aO N S.x hh
 let X:=dv N (dv N (aO N r r) hhh) (bZ N v v)
 ⟨S.g,X,dv N (aO N r (dv N v X)) (aO N S.y hhh),aO N S.z h⟩
def ru(N:Nat)(S:St)(qx qy:PN):St:=
 cond (isz S.z) ⟨S.g,qx,qy,vA⟩
  (cond (isz (plH N S qx)) (cond (isz (plR N S qy)) ⟨false,dR,dR,dR⟩ ⟨S.g,dR,dR,dR⟩)
   (plG N S (plH N S qx) (plR N S qy)))
def G3{α:Type}(T:St)(a:α):α:=cond (Nat.beq (T.x.1+T.x.2+T.y.1+T.y.2+T.z.1+T.z.2) 0) (cond T.g a a) (cond T.g a a)
theorem G5{α:Type}(T:St)(a:α):G3 T a=a:=by
 unfold G3
 cases Nat.beq (T.x.1+T.x.2+T.y.1+T.y.2+T.z.1+T.z.2) 0 <;> cases T.g <;> rfl
def jgo(N:Nat)(qx qy:PN)(k:Nat):Nat→St→St
 | 0,S=>S
 | f+1,S=>(fun T=>G3 T (jgo N qx qy k f T)) (cond (Nat.beq (k/2^f%2) 1) (ru N (mC N S) qx qy) (mC N S))
theorem Oo(N:Nat)(qx qy:PN)(k f:Nat)(S:St):jgo N qx qy k (f+1) S=jgo N qx qy k f (cond (Nat.beq (k/2^f%2) 1) (ru N (mC N S) qx qy) (mC N S)):=G5 _ _
def vq:St:=⟨true,dR,dR,dR⟩
theorem On(N:Nat)(qx qy:PN)(k:Nat):∀(f:Nat)(S:St),S.g=false→(jgo N qx qy k f S).g=false
 | 0,S,h=>h
 | f+1,S,h=>by
  rw[Oo]
  refine On N qx qy k f _ ?_
  have hd:(mC N S).g=false:=h
  cases Nat.beq (k/2^f%2) 1 with
  | false=>exact hd
  | true=>
   show(ru N (mC N S) qx qy).g=false
   generalize mC N S=U at hd
   unfold ru
   cases isz U.z with
   | true=>exact hd
   | false=>
    cases isz (plH N U qx)with
    | true=>cases isz (plR N U qy)with
     | true=>rfl
     | false=>exact hd
    | false=>exact hd
section
variable {n:Nat} [NeZero n]
theorem vO:red n vA=one:=ext' κ_1 κ_0
theorem kq:red n dR=zero:=ext' κ_0 κ_0
structure Stands (S:St) (P:Pt n):Prop where
 g:S.g=true
 x:ltP n S.x
 y:ltP n S.y
 z:ltP n S.z
 e:jp (red n S.x) (red n S.y) (red n S.z)=P
attribute [local irreducible] add mul sub neg zero one inv aO bZ dv
theorem QE(hp:P3 n){b:K2 n}(h2:No2 b){S:St}{P:Pt n}(ho:Onc b P)(h:Stands S P):Stands (mC n S) (pa P P):=by
 have hn:=Nat.dvd_refl n
 have h0:=hp.1.pos
 have he:=h.e
 rw[← he]at ho
 have ht:=j9 hp h2 ho
 rw[he]at ht
 refine⟨h.g,jt h0 _ _,jt h0 _ _,Aq h0 _ _,?_⟩
 rw[← ht]
 simp only[mC,d8 hn h0,cZ hn h0,kQ hn,tX,tY,tZ,td,td1,td0,te,tc]
theorem RV(hp:P3 n){S:St}{P:Pt n}{qx qy:PN}(hqx:ltP n qx)(hqy:ltP n qy)(h:Stands S P)(hb:(ru n S qx qy).g=true):
  Stands (ru n S qx qy) (pa P (some (red n qx,red n qy))):=by
 have hn:=Nat.dvd_refl n
 have h0:=hp.1.pos
 have h1:=hp.1.1
 have he:=h.e
 have z0:ltP n dR:=⟨h0,h0⟩
 have eh:red n (plH n S qx)=pH (red n S.x) (red n S.z) (red n qx):=by
  simp only[plH,d8 hn h0,cZ hn h0,pH]
 have er:red n (plR n S qy)=pR (red n S.y) (red n S.z) (red n qy):=by
  simp only[plR,d8 hn h0,cZ hn h0,pR]
 have lh:ltP n (plH n S qx):=jt h0 _ _
 have lr:ltP n (plR n S qy):=jt h0 _ _
 unfold ru at hb ⊢
 generalize plH n S qx=H at *
 generalize plR n S qy=R at *
 cases hz:isz S.z with
 | true=>
  refine⟨h.g,hqx,hqy,⟨h1,h0⟩,?_⟩
  show jp (red n qx) (red n qy) (red n vA)=_
  rw[vO,AE hp,← he,Ed ((dY h.z).1 hz)]
  rfl
 | false=>
  rw[hz]at hb
  have hz0:red n S.z≠zero:=fun e=>by rw[(dY h.z).2 e]at hz;cases hz
  cases hi:isz H with
  | true=>
   rw[hi]at hb
   have zh:=(dY lh).1 hi
   cases hj:isz R with
   | true=>rw[hj]at hb;cases hb
   | false=>
    have zr:red n R≠zero:=fun e=>by rw[(dY lr).2 e]at hj;cases hj
    rw[eh]at zh
    rw[er]at zr
    have:=od hp hz0 zh zr
    rw[he]at this
    rw[this]
    refine⟨h.g,z0,z0,z0,?_⟩
    show jp (red n dR) (red n dR) (red n dR)=none
    rw[kq,xy]
  | false=>
   have zh:red n H≠zero:=fun e=>by rw[(dY lh).2 e]at hi;cases hi
   have zh':=zh
   rw[eh]at zh'
   have:=u6 hp (y:=red n S.y) (qy:=red n qy) hz0 zh'
   rw[he,← eh,← er]at this
   refine⟨h.g,jt h0 _ _,jt h0 _ _,Rv h0 _ _,?_⟩
   rw[← this]
   simp only[cond_false,plG,d8 hn h0,cZ hn h0,kQ hn,pX,pY,pV]
theorem Al(hp:P3 n){b:K2 n}(h2:No2 b){qx qy:PN}(hqx:ltP n qx)(hqy:ltP n qy)(ho:Onc b (some (red n qx,red n qy)))(k:Nat):
  ∀(f:Nat)(S:St)(m:Nat),Stands S (tim (some (red n qx,red n qy)) m)→(jgo n qx qy k f S).g=true→Stands (jgo n qx qy k f S) (tim (some (red n qx,red n qy)) (m*2^f+k%2^f))
 | 0,S,m,h,_=>by
  rw[Nat.pow_zero,Nat.mod_one,Nat.mul_one,Nat.add_zero];exact h
 | f+1,S,m,h,hb=>by
  have hd:=QE hp h2 (cW hp ho m) h
  rw[← fj hp h2 ho]at hd
  have hk:k%2^(f+1)=2^f*(k/2^f%2)+k%2^f:=by rw[Nat.pow_succ,Nat.mod_mul,Nat.add_comm]
  rw[Oo]at hb ⊢
  rcases Nat.mod_two_eq_zero_or_one (k/2^f)with h1 | h1
  ·rw[h1]at hb hk ⊢
   have:=Al hp h2 hqx hqy ho k f _ _ hd hb
   rwa [show(m+m)*2^f+k%2^f=m*2^(f+1)+k%2^(f+1) by rw[hk,Nat.pow_succ,Nat.mul_zero,Nat.zero_add,Nat.add_mul,Nat.mul_comm (2^f) 2,← Nat.mul_assoc,Nat.mul_two,Nat.add_mul]]at this
  ·rw[h1]at hb hk ⊢
   have hg:(ru n (mC n S) qx qy).g=true:=by
    cases hq:(ru n (mC n S) qx qy).g with
    | true=>rfl
    | false=>
     have:=On n qx qy k f _ hq
     rw[show cond (Nat.beq 1 1) (ru n (mC n S) qx qy) (mC n S)=ru n (mC n S) qx qy from rfl,this]at hb
     cases hb
   have hs:=RV hp hqx hqy hd hg
   have:=Al hp h2 hqx hqy ho k f _ (m+m+1) hs hb
   rwa [show(m+m+1)*2^f+k%2^f=m*2^(f+1)+k%2^(f+1) by rw[hk,Nat.pow_succ,Nat.mul_one,Nat.add_mul,Nat.one_mul,Nat.add_assoc,Nat.mul_comm (2^f) 2,← Nat.mul_assoc,Nat.mul_two,Nat.add_mul]]at this
theorem Stands.nil(hp:P3 n):Stands vq (none:Pt n):=by
 have z0:ltP n dR:=⟨hp.1.pos,hp.1.pos⟩
 refine⟨rfl,z0,z0,z0,?_⟩
 show jp (red n dR) (red n dR) (red n dR)=none
 rw[kq,xy]
theorem kW(hp:P3 n){b:K2 n}(h2:No2 b){qx qy:PN}(hqx:ltP n qx)(hqy:ltP n qy)(ho:Onc b (some (red n qx,red n qy))){k f:Nat}(hk:k<2^f)(h:(jgo n qx qy k f vq).g=true):
  Stands (jgo n qx qy k f vq) (tim (some (red n qx,red n qy)) k):=by
 have:=Al hp h2 hqx hqy ho k f vq 0 (Stands.nil hp) h
 rwa [Nat.zero_mul,Nat.zero_add,Nat.mod_eq_of_lt hk]at this
theorem Stands.none_iff{S:St}{P:Pt n}(h:Stands S P):isz S.z=true↔P=none:=by
 rw[dY h.z,← h.e]
 constructor
 ·exact Ed
 ·intro e
  exact Classical.byContradiction fun hz=>by rw[pq hz]at e;cases e
end
end K2
end Go.Proofs.YtndhfbecpghinaaGreat.L.Kf
